/-
  Texts that the proof leans on.
-/
import Derived.Test.YtindfaehjoileaaGreatDoorMSn2
import Derived.Deep.RegionWith
import Derived.RegionTactic
import Derived.Deep.RegionHeld3
import Derived.Lib.AppendZeros
import Derived.BigQuiet
import Derived.Deep.QuietTactic
import Derived.Laws.BytesArg
namespace Go.Proofs.YtindfaehjoileaaGreatDoor
structure IsTwins (K R:Nat) (T a b:List Int):Prop where
 sa:Syms K a
 sb:Syms K b
 len:a.length=b.length
 ne:a≠b
 low:2*R≤a.length
 front:a.take (2*R)=b.take (2*R)
 back:a.drop (a.length-2*R)=b.drop (b.length-2*R)
 img:imgP K R T a=imgP K R T b
theorem IsTwins.symm {K R:Nat} {T a b:List Int} (h:IsTwins K R T a b):IsTwins K R T b a :=
 ⟨h.sb,h.sa,h.len.symm,h.ne.symm,by rw [← h.len]; exact h.low,h.front.symm,h.back.symm,h.img.symm⟩
theorem IsTwins.context {K R:Nat} {T a b:List Int} (h:IsTwins K R T a b) (u v:List Int):imgP K R T (u++a++v)=imgP K R T (u++b++v):=by
 have hlen:=h.len
 have hlow:=h.low
 have fr:∀ k,k<2*R→a[k]?=b[k]?:=fun k hk=>by
  have:=congrArg (·[k]?) h.front
  simpa [List.getElem?_take,hk] using this
 have bk:∀ k,a.length-2*R≤k→a[k]?=b[k]?:=fun k hk=>by
  have:=congrArg (·[k-(a.length-2*R)]?) h.back
  simp only [List.getElem?_drop] at this
  rw [show a.length-2*R+(k-(a.length-2*R))=k by omega,show b.length-2*R+(k-(a.length-2*R))=k by omega] at this
  exact this
 have at_:∀ (c:List Int) (p:Nat),(u++c++v)[p]?=if p<u.length then u[p]? else if p<u.length+c.length then c[p-u.length]? else v[p-(u.length+c.length)]?:=fun c p=>by
  rw [List.getElem?_append]
  simp only [List.length_append,List.getElem?_append]
  split
  ·split<;>rfl
  ·split
   ·omega
   ·rfl
 refine List.ext_getElem (by rw [imgP_length,imgP_length]; simp [hlen]) fun i h1 h2=>?_
 rw [imgP_length] at h1 h2
 have key:((u++a++v).drop i).take (2*R+1)=((u++b++v).drop i).take (2*R+1)∨(u.length≤i∧i+2*R<u.length+a.length):=by
  by_cases hin:u.length≤i∧i+2*R<u.length+a.length
  ·exact .inr hin
  ·left
   refine List.ext_getElem? fun j=>?_
   rw [List.getElem?_take,List.getElem?_take]
   split
   ·rw [List.getElem?_drop,List.getElem?_drop,at_,at_,← hlen]
    split
    ·rfl
    ·split
     ·by_cases q:i<u.length
      ·exact fr _ (by omega)
      ·exact bk _ (by omega)
     ·rfl
   ·rfl
 have g1:=imgP_getD K R T (u++a++v) i h1
 have g2:=imgP_getD K R T (u++b++v) i h2
 simp only [List.getD_eq_getElem?_getD,List.getElem?_eq_getElem (show i<(imgP K R T (u++a++v)).length by rw [imgP_length]; exact h1),List.getElem?_eq_getElem (show i<(imgP K R T (u++b++v)).length by rw [imgP_length]; exact h2),Option.getD_some] at g1 g2
 rw [g1,g2]
 rcases key with key | ⟨k1,k2⟩
 ·rw [key]
 ·have win:∀ (c:List Int),c.length=a.length→((u++c++v).drop i).take (2*R+1)=(c.drop (i-u.length)).take (2*R+1):=fun c hc=>by
   rw [List.append_assoc,List.drop_append,List.drop_eq_nil_of_le (show u.length≤i by omega),List.nil_append,List.drop_append_of_le_length (by omega),List.take_append_of_le_length (by simp; omega)]
  rw [win a rfl,win b hlen.symm]
  have e:=congrArg (fun l=>l.getD (i-u.length) 0) h.img
  rw [imgP_getD _ _ _ _ _ (by omega),imgP_getD _ _ _ _ _ (by omega)] at e
  simpa [List.getD_eq_getElem?_getD] using e
def Diag (N p:Nat):Prop:=p/N=p%N
instance (N p:Nat):Decidable (Diag N p):=by unfold Diag; exact inferInstance
theorem diag_mk {N u:Nat} (h:u<N):Diag N (u*N+u):=by unfold Diag; rw [pair_div h,pair_mod h]
theorem Diag.eq {N p:Nat} (h:Diag N p):p=p/N*N+p/N:=by
 have:=pair_eq p N
 rw [← h] at this; exact this.symm
structure ApartWay (N:Nat) (adj:Nat→List Nat) (w:List Nat):Prop where
 len:3≤w.length
 low:∀ i,i<w.length→w.getD i 0<N*N
 arr:∀ i,i+1<w.length→w.getD (i+1) 0∈adj (w.getD i 0)
 fst:Diag N (w.getD 0 0)
 lst:Diag N (w.getD (w.length-1) 0)
 inn:∀ i,0<i→i+1<w.length→¬ Diag N (w.getD i 0)
theorem last_diag {N:Nat} {W:Nat→Nat} (h0:Diag N (W 0)):∀ i,¬ Diag N (W i)→∃ k,k<i∧Diag N (W k)∧∀ j,k<j→j≤i→¬ Diag N (W j)
 | 0,h=>absurd h0 h
 | i+1,h=>by
  by_cases q:Diag N (W i)
  ·exact ⟨i,by omega,q,fun j h1 h2=>by obtain rfl:j=i+1:=by omega
                                       exact h⟩
  ·obtain ⟨k,h1,h2,h3⟩:=last_diag h0 i q
   refine ⟨k,by omega,h2,fun j h4 h5=>?_⟩
   by_cases e:j=i+1
   ·subst e; exact h
   ·exact h3 j h4 (by omega)
theorem next_diag {N:Nat} {W:Nat→Nat} {i:Nat} (h:¬ Diag N (W i)):∀ k,Diag N (W (i+k))→∃ m,i<m∧m≤i+k∧Diag N (W m)∧∀ j,i≤j→j<m→¬ Diag N (W j)
 | 0,hk=>absurd hk h
 | k+1,hk=>by
  by_cases q:∃ m,i<m∧m≤i+k∧Diag N (W m)∧∀ j,i≤j→j<m→¬ Diag N (W j)
  ·obtain ⟨m,h1,h2,h3⟩:=q
   exact ⟨m,h1,by omega,h3⟩
  ·refine ⟨i+(k+1),by omega,Nat.le_refl _,hk,fun j h1 h2 hd=>q ?_⟩
   obtain ⟨d,rfl⟩:∃ d,j=i+d:=⟨j-i,by omega⟩
   obtain ⟨m,m1,m2,m3⟩:=next_diag h d hd
   exact ⟨m,m1,by omega,m3⟩
theorem list_range_get (f:Nat→Nat) (n i:Nat) (h:i<n):((List.range n).map f).getD i 0=f i:=by simp [List.getD,h]
theorem IsTwins.way {K R:Nat} {T a b:List Int} (hK:1≤K) (hR:1≤R) (h:IsTwins K R T a b):∃ w,ApartWay (pw K (2*R)) (pairL K (pw K (2*R)) T) w∧2*R+(w.length-1)≤a.length:=by
 have hlen:=h.len
 have hlow:=h.low
 have hN:=pw_pos (K:=K) (2*R) hK
 have na:∀ i,i+2*R≤a.length→nodeAt K (2*R) a i<pw K (2*R):=fun i hi=>node_lt h.sa hi
 have nb:∀ i,i+2*R≤a.length→nodeAt K (2*R) b i<pw K (2*R):=fun i hi=>node_lt h.sb (by omega)
 obtain ⟨W,hW⟩:∃ W:Nat→Nat,W=fun i=>nodeAt K (2*R) a i*pw K (2*R)+nodeAt K (2*R) b i:=⟨_,rfl⟩
 have hWi:∀ i,W i=nodeAt K (2*R) a i*pw K (2*R)+nodeAt K (2*R) b i:=fun i=>by rw [hW]
 have dg:∀ i,i+2*R≤a.length→(Diag (pw K (2*R)) (W i)↔nodeAt K (2*R) a i=nodeAt K (2*R) b i):=fun i hi=>by
  unfold Diag; rw [hWi,pair_div (nb i hi),pair_mod (nb i hi)]
 have d0:Diag (pw K (2*R)) (W 0):=by
  rw [dg 0 (by omega)]; unfold nodeAt; rw [List.drop_zero,List.drop_zero,h.front]
 obtain ⟨n,hn⟩:∃ n,a.length=n+2*R:=⟨a.length-2*R,by omega⟩
 have dn:Diag (pw K (2*R)) (W n):=by
  rw [dg n (by omega)]; unfold nodeAt
  have:=h.back
  rw [← hlen,hn,Nat.add_sub_cancel] at this
  rw [this]
 have hex:∃ i,i≤n∧¬ Diag (pw K (2*R)) (W i):=by
  apply Classical.byContradiction
  intro hno
  have hall:∀ i,i≤n→nodeAt K (2*R) a i=nodeAt K (2*R) b i:=fun i hi=>(dg i (by omega)).1 (Classical.byContradiction fun q=>hno ⟨i,hi,q⟩)
  apply h.ne
  have hget:∀ i,i<n+1→((List.range (n+1)).map (nodeAt K (2*R) a)).getD i 0=nodeAt K (2*R) a i:=fun i hi=>list_range_get _ _ _ hi
  have e1:=along_word (F:=id) (way:=(List.range (n+1)).map (nodeAt K (2*R) a)) hK hR h.sa h.low (by simp; omega) (fun i hi=>hget i (by simpa using hi))
  have e2:=along_word (F:=id) (way:=(List.range (n+1)).map (nodeAt K (2*R) a)) hK hR h.sb (by omega) (by simp; omega) (fun i hi=>by
   have hi:i<n+1:=by simpa using hi
   show ((List.range (n+1)).map (nodeAt K (2*R) a)).getD i 0=_
   rw [hget i hi,hall i (by omega)])
  rw [← e1,e2]
 obtain ⟨i,hi,hnd⟩:=hex
 obtain ⟨k,k1,k2,k3⟩:=last_diag d0 i hnd
 obtain ⟨m,m1,m2,m3,m4⟩:=next_diag hnd (n-i) (by rw [show i+(n-i)=n by omega]; exact dn)
 have hget:∀ j,j<m-k+1→((List.range (m-k+1)).map fun j=>W (k+j)).getD j 0=W (k+j):=fun j hj=>list_range_get _ _ _ hj
 refine ⟨(List.range (m-k+1)).map fun j=>W (k+j),⟨by simp; omega,fun j hj=>?_,fun j hj=>?_,?_,?_,fun j j0 j1=>?_⟩,by simp; omega⟩
 ·rw [hget j (by simpa using hj),hWi]
  have:j<m-k+1:=by simpa using hj
  exact pair_lt (na _ (by omega)) (nb _ (by omega))
 ·have hj:j+1<m-k+1:=by simpa using hj
  rw [hget j (by omega),hget (j+1) hj,mem_pairL (by omega),hWi,hWi,pair_div (nb _ (by omega)),pair_mod (nb _ (by omega)),← Nat.add_assoc]
  exact wayW_arr h.sa h.sb hlen h.img (by omega)
 ·rw [hget 0 (by omega)]; exact k2
 ·rw [List.length_map,List.length_range,Nat.add_sub_cancel,hget _ (by omega),show k+(m-k)=m by omega]; exact m3
 ·have hj:j+1<m-k+1:=by simpa using j1
  rw [hget j (by omega)]
  by_cases q:k+j≤i
  ·exact k3 _ (by omega) q
  ·exact m4 _ (by omega) (by omega)
theorem ways_words {K R:Nat} {T:List Int} {w:List Nat} (hK:1≤K) (hR:1≤R) (hw:1≤w.length) (low:∀ i,i<w.length→w.getD i 0<pw K (2*R)*pw K (2*R))
 (arr:∀ i,i+1<w.length→w.getD (i+1) 0∈pairL K (pw K (2*R)) T (w.getD i 0)) :
 (∀ i,i<w.length→nodeAt K (2*R) (alongW K (2*R) (·/pw K (2*R)) w) i=w.getD i 0/pw K (2*R)∧nodeAt K (2*R) (alongW K (2*R) (·%pw K (2*R)) w) i=w.getD i 0%pw K (2*R)) ∧
 imgP K R T (alongW K (2*R) (·/pw K (2*R)) w)=imgP K R T (alongW K (2*R) (·%pw K (2*R)) w):=by
 have hN:=pw_pos (K:=K) (2*R) hK
 have fits:∀ i,i+1<w.length→StepFits K (pw K (2*R)) T (w.getD i 0) (w.getD (i+1) 0):=fun i hi =>
  (fits_iff hK hR (low _ hi)).2 ((mem_pairL (by omega)).1 (arr i hi))
 have n1:=along_node (K:=K) (m:=2*R) (F:=(·/pw K (2*R))) (way:=w) hK (div_lt_of (low 0 (by omega))) (fun i hi=>(fits i hi).1)
 have n2:=along_node (K:=K) (m:=2*R) (F:=(·%pw K (2*R))) (way:=w) hK (Nat.mod_lt _ (by omega)) (fun i hi=>(fits i hi).2.1)
 refine ⟨fun i hi=>⟨n1 i hi,n2 i hi⟩,?_⟩
 rw [img_eq (by rw [alongW_len,alongW_len])]
 intro i hi
 rw [alongW_len] at hi
 rw [n1 i (by omega),n2 i (by omega),alongW_get (by omega),alongW_get (by omega),Int.toNat_natCast,Int.toNat_natCast]
 exact (fits i (by omega)).2.2
theorem ApartWay.twins {K R:Nat} {T:List Int} {w:List Nat} (hK:1≤K) (hR:1≤R) (h:ApartWay (pw K (2*R)) (pairL K (pw K (2*R)) T) w) :
 IsTwins K R T (alongW K (2*R) (·/pw K (2*R)) w) (alongW K (2*R) (·%pw K (2*R)) w):=by
 have hN:=pw_pos (K:=K) (2*R) hK
 have h3:=h.len
 obtain ⟨hn,hi⟩:=ways_words hK hR (by omega) h.low h.arr
 have la:=alongW_len K (2*R) (·/pw K (2*R)) w
 have lb:=alongW_len K (2*R) (·%pw K (2*R)) w
 have sa:=alongW_syms (m:=2*R) hK (·/pw K (2*R)) w
 have sb:=alongW_syms (m:=2*R) hK (·%pw K (2*R)) w
 generalize alongW K (2*R) (·/pw K (2*R)) w=a at *
 generalize alongW K (2*R) (·%pw K (2*R)) w=b at *
 have same:∀ i,i<w.length→Diag (pw K (2*R)) (w.getD i 0)→(a.drop i).take (2*R)=(b.drop i).take (2*R):=fun i hi hd=>by
  obtain ⟨e1,e2⟩:=hn i hi
  have q1:=digs_numW hK _ (syms_take (syms_drop sa i) (2*R))
  have q2:=digs_numW hK _ (syms_take (syms_drop sb i) (2*R))
  rw [show ((a.drop i).take (2*R)).length=2*R by simp; omega] at q1
  rw [show ((b.drop i).take (2*R)).length=2*R by simp; omega] at q2
  rw [← q1,← q2]
  show digs K (2*R) (nodeAt K (2*R) a i)=digs K (2*R) (nodeAt K (2*R) b i)
  rw [e1,e2,hd]
 refine ⟨sa,sb,by omega,fun e=>?_,by omega,?_,?_,hi⟩
 ·subst e
  obtain ⟨e1,e2⟩:=hn 1 (by omega)
  exact h.inn 1 (by omega) (by omega) (e1.symm.trans e2)
 ·have:=same 0 (by omega) h.fst
  simpa using this
 ·have:=same (w.length-1) (by omega) h.lst
  rw [List.take_of_length_le (by simp; omega),List.take_of_length_le (by simp; omega)] at this
  rw [show a.length-2*R=w.length-1 by omega,show b.length-2*R=w.length-1 by omega]
  exact this
def TwinLen (K R:Nat) (T:List Int) (n:Nat):Prop:=(∃ a b,IsTwins K R T a b∧a.length=n)∧∀ a b,IsTwins K R T a b→n≤a.length
theorem TwinLen.unique {K R:Nat} {T:List Int} {n m:Nat} (h:TwinLen K R T n) (k:TwinLen K R T m):n=m:=by
 obtain ⟨⟨a,b,h1,rfl⟩,h2⟩:=h
 obtain ⟨⟨c,d,k1,rfl⟩,k2⟩:=k
 exact Nat.le_antisymm (h2 _ _ k1) (k2 _ _ h1)
theorem way_twinLen {K R:Nat} {T:List Int} {w:List Nat} (hK:1≤K) (hR:1≤R) (h:ApartWay (pw K (2*R)) (pairL K (pw K (2*R)) T) w)
 (hm:∀ u,ApartWay (pw K (2*R)) (pairL K (pw K (2*R)) T) u→w.length≤u.length):TwinLen K R T (2*R+(w.length-1)):=by
 refine ⟨⟨_,_,h.twins hK hR,alongW_len ..⟩,fun a b hab=>?_⟩
 obtain ⟨u,hu,hl⟩:=hab.way hK hR
 have:=hm u hu
 omega
theorem no_twins {K R:Nat} {T:List Int} (hK:1≤K) (hR:1≤R) (hm:∀ u,¬ ApartWay (pw K (2*R)) (pairL K (pw K (2*R)) T) u) (a b:List Int):¬ IsTwins K R T a b:=fun h=>by
 obtain ⟨u,hu,_⟩:=h.way hK hR
 exact hm u hu
theorem emod_nat {a:Int} {n:Nat} (hn:1≤n):∃ m:Nat,m<n∧a%(n:Int)=m:=by
 have h1:=Int.emod_nonneg a (show (n:Int)≠0 by omega)
 have h2:=Int.emod_lt_of_pos a (show (0:Int)<n by omega)
 exact ⟨(a%(n:Int)).toNat,by omega,by omega⟩
theorem getD_syms {K:Int} {x:List Int} (h:Syms K x) {i:Nat} (hi:i<x.length):0≤x.getD i 0∧x.getD i 0<K:=by
 have e:x.getD i 0=x[i]:=by simp [List.getD,hi]
 rw [e]; exact h _ (List.getElem_mem hi)
def FirstIs (img:Nat→List Int) (m a b:Nat):Prop:=a<b∧b<m∧img a=img b∧∀ x y,x<y→y<b→img x≠img y
theorem FirstIs.unique {img:Nat→List Int} {m a b c d:Nat} (h:FirstIs img m a b) (k:FirstIs img m c d):a=c∧b=d:=by
 obtain ⟨h1,h2,h3,h4⟩:=h
 obtain ⟨k1,k2,k3,k4⟩:=k
 have e:b=d:=by
  rcases Nat.lt_trichotomy b d with e | e | e
  ·exact absurd h3 (k4 a b h1 e)
  ·exact e
  ·exact absurd k3 (h4 c d k1 e)
 subst e
 refine ⟨?_,rfl⟩
 rcases Nat.lt_trichotomy a c with e | e | e
 ·exact absurd (h3.trans k3.symm) (h4 a c e k1)
 ·exact e
 ·exact absurd (k3.trans h3.symm) (h4 c a e h1)
def wideT (K R d:Nat) (T:List Int):List Int:=(List.range (pw K (2*(R+d)+1))).map fun i=>T.getD (numW K (((digs K (2*(R+d)+1) i).drop d).take (2*R+1))) 0
theorem wideT_length (K R d:Nat) (T:List Int):(wideT K R d T).length=pw K (2*(R+d)+1):=by simp [wideT]
theorem wideT_ok {K R d:Nat} {T:List Int} (h:RuleOk K R T) (hd:R+d≤3):RuleOk K (R+d) (wideT K R d T) :=
 ⟨h.k1,h.k4,hd,wideT_length ..,fun y hy=>by
   obtain ⟨i,_,rfl⟩:=List.mem_map.1 hy
   exact h.syms.getD (by have:=h.k1; omega) _⟩
theorem wideT_at {K R d:Nat} {T:List Int} (hK:1≤K) (w:List Int) (hw:Syms K w) (hl:w.length=2*(R+d)+1):(wideT K R d T).getD (numW K w) 0=T.getD (numW K ((w.drop d).take (2*R+1))) 0:=by
 have hlt:=numW_lt w hw
 rw [hl] at hlt
 have:(wideT K R d T).getD (numW K w) 0=T.getD (numW K (((digs K (2*(R+d)+1) (numW K w)).drop d).take (2*R+1))) 0:=by simp [wideT,List.getD,hlt]
 rw [this,← hl,digs_numW hK w hw]
theorem img_wide {K R d:Nat} {T:List Int} (hK:1≤K) (x:List Int) (hx:Syms K x):imgP K (R+d) (wideT K R d T) x=imgP K R T ((x.drop d).take (x.length-2*d)):=by
 refine List.ext_getElem (by rw [imgP_length,imgP_length]; simp; omega) fun i h1 h2=>?_
 have e1:=imgP_getD K (R+d) (wideT K R d T) x i (by rw [imgP_length] at h1; exact h1)
 have e2:=imgP_getD K R T ((x.drop d).take (x.length-2*d)) i (by rw [imgP_length] at h2; exact h2)
 rw [imgP_length] at h1
 rw [List.getD_eq_getElem?_getD,List.getElem?_eq_getElem (by rw [imgP_length]; exact h1),Option.getD_some] at e1
 rw [List.getD_eq_getElem?_getD,List.getElem?_eq_getElem h2,Option.getD_some] at e2
 rw [e1,e2,wideT_at hK _ (syms_take (syms_drop hx i) _) (by simp; omega)]
 congr 2
 rw [List.drop_take,List.take_take,List.drop_drop,List.drop_take,List.drop_drop,List.take_take,Nat.add_comm d i]
 congr 1
 omega
def cellA {α:Type} (d:α) (L C Q:List α) (i:Int):α :=
 if i<0 then L.getD (i%(L.length:Int)).toNat d
 else if i<C.length then C.getD i.toNat d
 else Q.getD ((i-C.length)%(Q.length:Int)).toNat d
theorem emod_next {a:Int} {n j:Nat} (hn:1≤n) (h:a%(n:Int)=j):(a+1)%(n:Int)=if j+1<n then ((j+1:Nat):Int) else 0:=by
 have h1:=Int.emod_lt_of_pos a (show (0:Int)<n by omega)
 have e:(a+1)%(n:Int)=(((a%n)+1)%n):=by rw [Int.emod_add_emod]
 rw [e,h]
 split
 ·exact Int.emod_eq_of_lt (by omega) (by omega)
 ·rw [show (j:Int)+1=n by omega]; exact Int.emod_self
structure Bi (adj:Nat→List Nat) (L C Q:List Nat):Prop where
 l1:1≤L.length
 c1:1≤C.length
 q1:1≤Q.length
 sL:∀ j,j+1<L.length→L.getD (j+1) 0∈adj (L.getD j 0)
 eL:L.getD 0 0∈adj (L.getD (L.length-1) 0)
 fC:C.getD 0 0=L.getD 0 0
 sC:∀ j,j+1<C.length→C.getD (j+1) 0∈adj (C.getD j 0)
 eC:Q.getD 0 0∈adj (C.getD (C.length-1) 0)
 sQ:∀ j,j+1<Q.length→Q.getD (j+1) 0∈adj (Q.getD j 0)
 eQ:Q.getD (Q.length-1) 0=C.getD (C.length-1) 0
theorem Bi.step {adj:Nat→List Nat} {L C Q:List Nat} (h:Bi adj L C Q) (i:Int):cellA 0 L C Q (i+1)∈adj (cellA 0 L C Q i):=by
 have l1:=h.l1
 have c1:=h.c1
 have q1:=h.q1
 unfold cellA
 by_cases h0:i<0
 ·rw [if_pos h0]
  obtain ⟨j,hj,e⟩:=emod_nat (a:=i) l1
  have e2:=emod_next l1 e
  rw [e,Int.toNat_natCast]
  by_cases h1:i+1<0
  ·rw [if_pos h1,e2]
   split
   ·rename_i hlt; rw [Int.toNat_natCast]; exact h.sL j hlt
   ·obtain rfl:j=L.length-1:=by omega
    exact h.eL
  ·rw [if_neg h1,if_pos (by omega),show (i+1).toNat=0 by omega,h.fC]
   have:i=-1:=by omega
   subst this
   have e3:(-1:Int)+1=0:=rfl
   rw [e3,Int.zero_emod] at e2
   have:j=L.length-1:=by
    split at e2
    ·omega
    ·omega
   subst this
   exact h.eL
 ·rw [if_neg h0,if_neg (show ¬ i+1<0 by omega)]
  by_cases h1:i<C.length
  ·rw [if_pos h1]
   by_cases h2:i+1<C.length
   ·rw [if_pos h2,show (i+1).toNat=i.toNat+1 by omega]; exact h.sC _ (by omega)
   ·rw [if_neg h2,show i+1-(C.length:Int)=0 by omega,Int.zero_emod]
    have:=h.eC
    rw [show i.toNat=C.length-1 by omega]
    exact this
  ·rw [if_neg h1,if_neg (show ¬ i+1<C.length by omega)]
   obtain ⟨j,hj,e⟩:=emod_nat (a:=i-C.length) q1
   have e2:=emod_next q1 e
   rw [show i+1-(C.length:Int)=i-C.length+1 by omega,e2,e,Int.toNat_natCast]
   split
   ·rename_i hlt; rw [Int.toNat_natCast]; exact h.sQ j hlt
   ·obtain rfl:j=Q.length-1:=by omega
    rw [h.eQ]; exact h.eC
theorem sub_get {x:List Int} {i m j:Nat} (h:j<m):((x.drop i).take m).getD j 0=x.getD (i+j) 0:=by
 simp [List.getD,h,List.getElem?_drop]
theorem ext_getD {a b:List Int} (hl:a.length=b.length) (h:∀ t,t<a.length→a.getD t 0=b.getD t 0):a=b :=
 List.ext_getElem hl fun t h1 h2=>by have:=h t h1; simpa [List.getD,h1,h2] using this
theorem ne_at {a b:List Int} (hl:a.length=b.length) (hne:a≠b):∃ j,j<a.length∧a.getD j 0≠b.getD j 0:=by
 apply Classical.byContradiction
 intro h
 exact hne (ext_getD hl fun t ht=>Classical.byContradiction fun q=>h ⟨t,ht,q⟩)
theorem img_cut {K R:Nat} {T x:List Int} {i m:Nat} (h:i+m≤x.length):imgP K R T ((x.drop i).take m)=((imgP K R T x).drop i).take (m-2*R):=by
 have hl:((x.drop i).take m).length=m:=by simp; omega
 refine ext_getD (by simp only [imgP_length,hl,List.length_take,List.length_drop]; omega) fun t ht=>?_
 rw [imgP_length,hl] at ht
 rw [imgP_getD _ _ _ _ _ (by rw [hl]; exact ht),sub_get ht,imgP_getD _ _ _ _ _ (by omega)]
 congr 2
 rw [List.drop_take,List.take_take,List.drop_drop,Nat.min_eq_left (by omega)]
def Split (K R:Nat) (T:List Int) (n:Nat):Prop:=∃ x y,Syms K x∧Syms K y∧x.length=2*n+1∧y.length=2*n+1∧x.getD n 0≠y.getD n 0∧imgP K R T x=imgP K R T y
def NotOne (K R:Nat) (T:List Int):Prop:=∀ n,Split K R T n
theorem split_of {K R:Nat} {T x y:List Int} (sx:Syms K x) (sy:Syms K y) (hl:x.length=y.length) {j n:Nat} (h1:n≤j) (h2:j+n<x.length) (hne:x.getD j 0≠y.getD j 0)
 (hi:imgP K R T ((x.drop (j-n)).take (2*n+1))=imgP K R T ((y.drop (j-n)).take (2*n+1))):Split K R T n :=
 ⟨_,_,syms_take (syms_drop sx _) _,syms_take (syms_drop sy _) _,by simp; omega,by simp; omega,by
   rw [sub_get (by omega),sub_get (by omega),show j-n+n=j by omega]; exact hne,hi⟩
theorem split_img {K R:Nat} {T x y:List Int} (sx:Syms K x) (sy:Syms K y) (hl:x.length=y.length) {j n:Nat} (h1:n≤j) (h2:j+n<x.length) (hne:x.getD j 0≠y.getD j 0)
 (hi:imgP K R T x=imgP K R T y):Split K R T n :=
 split_of sx sy hl h1 h2 hne (by rw [img_cut (by omega),img_cut (by omega),hi])
theorem Split.mono {K R:Nat} {T:List Int} {n m:Nat} (h:Split K R T n) (hm:m≤n):Split K R T m:=by
 obtain ⟨x,y,sx,sy,lx,ly,hne,hi⟩:=h
 exact split_img sx sy (by omega) (j:=n) hm (by omega) hne hi
theorem pad_get {z a v:List Int} {n j:Nat} (hz:z.length=n) (hj:j<a.length):(z++a++v).getD (n+j) 0=a.getD j 0:=by
 subst hz
 rw [List.append_assoc,List.getD_eq_getElem?_getD,List.getElem?_append_right (by omega),Nat.add_sub_cancel_left,List.getElem?_append_left hj,← List.getD_eq_getElem?_getD]
theorem syms_pad {K:Nat} (hK:1≤K) {a:List Int} (h:Syms K a) (n m:Nat):Syms K (List.replicate n 0++a++List.replicate m 0):=by
 intro y hy
 rcases List.mem_append.1 hy with hy | hy
 ·rcases List.mem_append.1 hy with hy | hy
  ·rw [List.eq_of_mem_replicate hy]; omega
  ·exact h y hy
 ·rw [List.eq_of_mem_replicate hy]; omega
theorem IsTwins.notOne {K R:Nat} {T a b:List Int} (hK:1≤K) (h:IsTwins K R T a b):NotOne K R T:=fun n=>by
 obtain ⟨j,hj,hne⟩:=ne_at h.len h.ne
 have hl:=h.len
 refine split_img (j:=n+j) (syms_pad hK h.sa n n) (syms_pad hK h.sb n n) (by simp [hl]) (by omega) (by simp; omega) ?_ (h.context _ _)
 rw [pad_get (by simp) hj,pad_get (by simp) (by omega)]
 exact hne
theorem notOne_wide {K R d:Nat} {T:List Int} (hK:1≤K):NotOne K (R+d) (wideT K R d T)↔NotOne K R T:=by
 constructor
 ·intro h n
  obtain ⟨x,y,sx,sy,lx,ly,hne,e⟩:=h (n+d)
  rw [img_wide hK x sx,img_wide hK y sy] at e
  refine ⟨_,_,syms_take (syms_drop sx d) _,syms_take (syms_drop sy d) _,by simp; omega,by simp; omega,?_,e⟩
  rw [sub_get (by omega),sub_get (by omega),Nat.add_comm d n]
  exact hne
 ·intro h n
  obtain ⟨x,y,sx,sy,lx,ly,hne,e⟩:=h n
  have mid:∀ u:List Int,((List.replicate d (0:Int)++u++List.replicate d 0).drop d).take ((List.replicate d (0:Int)++u++List.replicate d 0).length-2*d)=u:=fun u=>by
   rw [List.append_assoc,List.drop_left' (by simp),List.take_left' (by simp; omega)]
  refine Split.mono (n:=n+d) ⟨_,_,syms_pad hK sx d d,syms_pad hK sy d d,by simp; omega,by simp; omega,?_,?_⟩ (by omega)
  ·rw [Nat.add_comm n d,pad_get (by simp) (by omega),pad_get (by simp) (by omega)]
   exact hne
  ·rw [img_wide hK _ (syms_pad hK sx d d),img_wide hK _ (syms_pad hK sy d d),mid,mid,e]
def Onto (K R:Nat) (T:List Int):Prop:=∀ y,Syms K y→∃ x,Syms K x∧x.length=y.length+2*R∧imgP K R T x=y
theorem bernoulli (Q k:Nat):Q ^ (k+1)+(k+1)*Q ^ k≤(Q+1) ^ (k+1):=by
 induction k with
 | zero=>simp
 | succ k ih =>
  have h1:=Nat.mul_le_mul_right (Q+1) ih
  rw [← Nat.pow_succ] at h1
  refine Nat.le_trans ?_ h1
  have e1:Q ^ (k+1+1)=Q ^ (k+1)*Q:=Nat.pow_succ ..
  have e2:Q ^ (k+1)=Q ^ k*Q:=Nat.pow_succ ..
  have e3:(Q ^ (k+1)+(k+1)*Q ^ k)*(Q+1)=Q ^ (k+1)*Q+Q ^ (k+1)+((k+1)*(Q ^ k*Q)+(k+1)*Q ^ k):=by
   rw [Nat.add_mul,Nat.mul_add,Nat.mul_one,Nat.mul_add,Nat.mul_one,Nat.mul_assoc]
  rw [e3,e1,← e2,Nat.add_mul (k+1) 1,Nat.one_mul]
  omega
theorem few (P C:Nat) (hP:1≤P):∃ k,(P-1) ^ k*C<P ^ k:=by
 obtain ⟨Q,rfl⟩:∃ Q,P=Q+1:=⟨P-1,by omega⟩
 rw [Nat.add_sub_cancel]
 refine ⟨C*Q+1,Nat.lt_of_lt_of_le ?_ (bernoulli Q (C*Q))⟩
 rcases Nat.eq_zero_or_pos Q with rfl | hQ
 ·simp
 ·have hp:0<Q ^ (C*Q):=Nat.pow_pos hQ
  have e:Q ^ (C*Q+1)*C=Q ^ (C*Q)*(C*Q):=by rw [Nat.pow_succ,Nat.mul_assoc,Nat.mul_comm Q C]
  have e2:(C*Q+1)*Q ^ (C*Q)=Q ^ (C*Q)*(C*Q)+Q ^ (C*Q):=by rw [Nat.add_mul,Nat.one_mul,Nat.mul_comm]
  rw [e,e2]
  omega
def compl (K N:Nat) (T:List Int):Nat→List Int→List (List Int)
 | _,[]=>[[]]
 | node,y::ws=>(List.range K).flatMap fun s=>if T.getD (node*K+s) 0=y then (compl K N T ((node*K+s)%N) ws).map (fun c=>(s:Int)::c) else []
def complU (K N:Nat) (T:List Int) (node:Nat) (y:Int) (ws:List Int) (t:Nat):List (List Int) :=
 (List.range t).flatMap fun s=>if T.getD (node*K+s) 0=y then (compl K N T ((node*K+s)%N) ws).map (fun c=>(s:Int)::c) else []
theorem compl_cons (K N:Nat) (T:List Int) (node:Nat) (y:Int) (ws:List Int):compl K N T node (y::ws)=complU K N T node y ws K:=rfl
def allBefore (K R:Nat) (T ws:List Int) (n:Nat):List (List Int):=(List.range n).flatMap fun node=>(compl K (pw K (2*R)) T node ws).map fun c=>digs K (2*R) node++c
def begins (n:Nat) (ends l:List Int):Bool:=decide (n≤l.length)&&decide (l.take n=ends)
def preL (K R:Nat) (T ws:List Int):List (List Int):=allBefore K R T ws (pw K (2*R))
def preN (K R:Nat) (T ws:List Int):Nat:=(preL K R T ws).length
theorem flatMap_sum {α β:Type} (f:α→List β) (l:List α):(l.flatMap f).length=(l.map fun a=>(f a).length).sum:=by
 induction l with
 | nil=>rfl
 | cons a l ih=>rw [List.flatMap_cons,List.length_append,ih,List.map_cons,List.sum_cons]
def wayN (K N:Nat) (T:List Int):List Int→List Nat
 | []=>List.replicate N 1
 | y::ws=>(List.range N).map fun u=>((List.range K).map fun s=>if T.getD (u*K+s) 0=y then (wayN K N T ws).getD ((u*K+s)%N) 0 else 0).sum
theorem wayN_cons (K N:Nat) (T:List Int) (y:Int) (ws:List Int):wayN K N T (y::ws)=(List.range N).map fun u=>((List.range K).map fun s=>if T.getD (u*K+s) 0=y then (wayN K N T ws).getD ((u*K+s)%N) 0 else 0).sum:=rfl
theorem wayN_len (K N:Nat) (T ws:List Int):(wayN K N T ws).length=N:=by cases ws<;>simp [wayN]
theorem wayN_compl {K N:Nat} {T:List Int} (hN:0<N) (ws:List Int):∀ u,u<N→(wayN K N T ws).getD u 0=(compl K N T u ws).length:=by
 induction ws with
 | nil=>intro u hu; simp [wayN,compl,List.getD,hu]
 | cons y ws ih =>
  intro u hu
  rw [compl_cons]
  unfold complU
  rw [flatMap_sum]
  have e:(wayN K N T (y::ws)).getD u 0=((List.range K).map fun s=>if T.getD (u*K+s) 0=y then (wayN K N T ws).getD ((u*K+s)%N) 0 else 0).sum:=by
   rw [wayN_cons,List.getD_eq_getElem?_getD,List.getElem?_map,List.getElem?_range hu]; rfl
  rw [e]
  congr 1
  refine List.map_congr_left fun s _=>?_
  split
  ·rw [ih _ (Nat.mod_lt _ hN),List.length_map]
  ·rfl
theorem preN_way {K R:Nat} {T:List Int} (hK:1≤K) (ws:List Int):preN K R T ws=(wayN K (pw K (2*R)) T ws).sum:=by
 unfold preN preL allBefore
 rw [flatMap_sum]
 have hp:=pw_pos (2*R) hK
 have e:wayN K (pw K (2*R)) T ws=(List.range (pw K (2*R))).map fun u=>((compl K (pw K (2*R)) T u ws).map fun c=>digs K (2*R) u++c).length:=by
  refine List.ext_getElem (by rw [wayN_len]; simp) fun u h1 h2=>?_
  have hu:u<pw K (2*R):=by rw [wayN_len] at h1; exact h1
  have:=wayN_compl (K:=K) (T:=T) hp ws u hu
  rw [List.getD_eq_getElem?_getD,List.getElem?_eq_getElem h1,Option.getD_some] at this
  rw [this]
  simp
 rw [e]
def stepN (K N:Nat) (T:List Int) (at_:List Nat) (y:Int):Nat→List Nat
 | 0=>List.replicate N 0
 | j+1=>if T.getD j 0=y then (stepN K N T at_ y j).set (j/K) ((stepN K N T at_ y j).getD (j/K) 0+at_.getD (j%N) 0) else stepN K N T at_ y j
theorem stepN_len (K N:Nat) (T:List Int) (at_:List Nat) (y:Int) (j:Nat):(stepN K N T at_ y j).length=N:=by
 induction j with
 | zero=>simp [stepN]
 | succ j ih=>unfold stepN; split<;>simp [ih]
theorem stepN_get {K N:Nat} (hK:1≤K) {T:List Int} {at_:List Nat} {y:Int}:∀ j,j≤N*K→∀ u,u<N→(stepN K N T at_ y j).getD u 0=((List.range (min K (j-u*K))).map fun s=>if T.getD (u*K+s) 0=y then at_.getD ((u*K+s)%N) 0 else 0).sum
 | 0,_,u,hu=>by simp [stepN,List.getD,hu]
 | j+1,hj,u,hu=>by
  have ih:=stepN_get hK (T:=T) (at_:=at_) (y:=y) j (by omega) u hu
  have hd:=Nat.div_add_mod j K
  have hm:=Nat.mod_lt j (show 0<K by omega)
  have hq:j/K<N:=by rw [Nat.div_lt_iff_lt_mul (by omega)]; omega
  have hc:K*(j/K)=j/K*K:=Nat.mul_comm _ _
  unfold stepN
  by_cases e:u=j/K
  ·subst e
   have e1:min K (j-j/K*K)=j%K:=by omega
   have e2:min K (j+1-j/K*K)=j%K+1:=by omega
   rw [e1] at ih
   rw [e2,List.range_succ,List.map_append,List.sum_append,← ih,List.map_singleton,List.sum_singleton,show j/K*K+j%K=j by omega]
   split
   ·have hl:j/K<(stepN K N T at_ y j).length:=by rw [stepN_len]; exact hq
    simp [List.getD,hl]
   ·omega
  ·have e1:min K (j+1-u*K)=min K (j-u*K):=by
    rcases Nat.lt_or_ge u (j/K) with q | q
    ·have:=Nat.mul_le_mul_right K (show u+1≤j/K by omega)
     rw [Nat.succ_mul] at this
     omega
    ·have:=Nat.mul_le_mul_right K (show j/K+1≤u by omega)
     rw [Nat.succ_mul] at this
     omega
   rw [e1,← ih]
   split
   ·simp [List.getD,List.getElem?_set_ne (Ne.symm e)]
   ·rfl
def wayE (K N:Nat) (T:List Int) (ends:List Nat):List Int→List Nat
 | []=>ends
 | y::ws=>(List.range N).map fun u=>((List.range K).map fun s=>if T.getD (u*K+s) 0=y then (wayE K N T ends ws).getD ((u*K+s)%N) 0 else 0).sum
theorem wayE_cons (K N:Nat) (T:List Int) (ends:List Nat) (y:Int) (ws:List Int):wayE K N T ends (y::ws)=(List.range N).map fun u=>((List.range K).map fun s=>if T.getD (u*K+s) 0=y then (wayE K N T ends ws).getD ((u*K+s)%N) 0 else 0).sum:=rfl
theorem wayE_len {K N:Nat} {T:List Int} {ws:List Int} {e:List Nat} (h:e.length=N):(wayE K N T e ws).length=N:=by cases ws<;>simp [wayE,h]
theorem wayE_one (K N:Nat) (T ws:List Int):wayE K N T (List.replicate N 1) ws=wayN K N T ws:=by
 induction ws with
 | nil=>rfl
 | cons y ws ih=>rw [wayE_cons,wayN_cons,ih]
theorem stepN_wayE {K N:Nat} (hK:1≤K) {T:List Int} {y:Int} {ws:List Int} {ends:List Nat}:stepN K N T (wayE K N T ends ws) y (N*K)=wayE K N T ends (y::ws):=by
 refine List.ext_getElem (by rw [stepN_len,wayE_cons]; simp) fun u h1 h2=>?_
 have hu:u<N:=by rw [stepN_len] at h1; exact h1
 have e:=stepN_get hK (T:=T) (at_:=wayE K N T ends ws) (y:=y) (N*K) (Nat.le_refl _) u hu
 rw [List.getD_eq_getElem?_getD,List.getElem?_eq_getElem h1,Option.getD_some] at e
 rw [e]
 have hm:min K (N*K-u*K)=K:=by
  have:=Nat.mul_le_mul_right K (show u+1≤N by omega)
  rw [Nat.succ_mul] at this
  omega
 rw [hm]
 simp [wayE_cons]
open Go.RowKit
set_option maxRecDepth 100000
theorem oneNats:OneCell 282 129 (.slice none 0 0) 24:=⟨by kernel_rfl,by kernel_rfl,rfl,by decide,fun _=>by kernel_rfl⟩
def NumAt (w:World) (v:Value) (n:Nat):Prop:=∃ l,LimbsAt w v l∧Limbs l∧Norm l∧natV l=n
theorem NumIs.num {B:Nat} {w:World} {v:Value} {n:Nat} (h:NumIs B w v n):NumAt w v n:=by
 obtain ⟨l,h1,h2⟩:=h; exact ⟨l,h1.at,h2⟩
theorem NumAt.below {w w':World} {v:Value} {n:Nat} (h:NumAt w v n) (hb:Below w.heap.size w w'):NumAt w' v n:=by
 obtain ⟨l,h1,h2⟩:=h; exact ⟨l,h1.below hb,h2⟩
theorem NumAt.nil (w:World):NumAt w (.slice none 0 0) 0:=⟨[],(OwnV.nil 203 0 w).at,(by intro x hx; cases hx),(by intro h; exact absurd rfl h),rfl⟩
theorem NumAt.shape {w:World} {v:Value} {n:Nat} (h:NumAt w v n):∃ a m c,v=.slice a m c:=by
 obtain ⟨l,h1,_⟩:=h; exact h1.shape
theorem NumAt.set {w:World} {v u:Value} {n:Nat} {a:Addr} (h:NumAt w v n) (hc:w.cell? a=some u) (hu:∀ x,u≠.int .u32 x) (y:Value):NumAt (w.setCell a y) v n:=by
 obtain ⟨l,h1,h2⟩:=h
 refine ⟨l,ValsAt.cells_eq h1 fun i hi=>World.cell?_setCell_other _ _ _ _ (fun e=>?_),h2⟩
 have h3:=ValsAt.cell h1 i hi
 rw [← e,hc] at h3
 injection h3 with h3
 exact hu _ (h3.trans (List.getElem_map ..))
structure NumsIn (w:World) (vs:List Value) (ns:List Nat):Prop where
 len:vs.length=ns.length
 each:∀ i,i<ns.length→NumAt w (vs.getD i .nilIface) (ns.getD i 0)
theorem NumsIn.below {w w':World} {vs:List Value} {ns:List Nat} (h:NumsIn w vs ns) (hb:Below w.heap.size w w'):NumsIn w' vs ns:=⟨h.len,fun i hi=>(h.each i hi).below hb⟩
theorem NumsIn.set {w:World} {vs:List Value} {ns:List Nat} {a:Addr} {u:Value} (h:NumsIn w vs ns) (hc:w.cell? a=some u) (hu:∀ x,u≠.int .u32 x) (y:Value):NumsIn (w.setCell a y) vs ns:=⟨h.len,fun i hi=>(h.each i hi).set hc hu y⟩
theorem NumsIn.upd {w:World} {vs:List Value} {ns:List Nat} (h:NumsIn w vs ns) (i:Nat) {y:Value} {n:Nat} (hy:NumAt w y n):NumsIn w (vs.set i y) (ns.set i n):=by
 refine ⟨by simp [h.len],fun j hj=>?_⟩
 rw [List.length_set] at hj
 have hjv:j<vs.length:=by rw [h.len]; exact hj
 by_cases e:i=j
 ·subst e
  have a1:(vs.set i y).getD i .nilIface=y:=by simp [List.getD,hjv]
  have a2:(ns.set i n).getD i 0=n:=by simp [List.getD,hj]
  rw [a1,a2]; exact hy
 ·have a1:(vs.set i y).getD j .nilIface=vs.getD j .nilIface:=by simp [List.getD,List.getElem?_set_ne e]
  have a2:(ns.set i n).getD j 0=ns.getD j 0:=by simp [List.getD,List.getElem?_set_ne e]
  rw [a1,a2]; exact h.each j hj
theorem NumsIn.zeros (w:World) (n:Nat):NumsIn w (List.replicate n (.slice none 0 0)) (List.replicate n 0):=by
 refine ⟨by simp,fun i hi=>?_⟩
 rw [List.length_replicate] at hi
 have a1:(List.replicate n (Value.slice none 0 0)).getD i .nilIface=.slice none 0 0:=by simp [List.getD,hi]
 have a2:(List.replicate n 0).getD i 0=0:=by simp [List.getD,hi]
 rw [a1,a2]; exact NumAt.nil w
theorem getD_at {vs:List Value} {i:Nat} (h:i<vs.length):vs.getD i .nilIface=vs[i]:=by simp [List.getD,h]
def AllLe (ns:List Nat) (M:Nat):Prop:=∀ i,ns.getD i 0≤M
theorem sum_le_c {n M:Nat} {f:Nat→Nat} (h:∀ i,f i≤M):((List.range n).map f).sum≤n*M:=by
 induction n with
 | zero=>simp
 | succ n ih =>
  rw [List.range_succ,List.map_append,List.sum_append]
  have:=h n
  simp only [List.map_cons,List.map_nil,List.sum_cons,List.sum_nil]
  rw [Nat.add_mul]; omega
theorem step_le {K N:Nat} (hK:1≤K) {T:List Int} {at_:List Nat} {y:Int} {M:Nat} (h:AllLe at_ M) {j:Nat} (hj:j≤N*K):AllLe (stepN K N T at_ y j) (K*M):=by
 intro u
 by_cases hu:u<N
 ·rw [stepN_get hK j hj u hu]
  refine Nat.le_trans (sum_le_c (M:=M) fun i=>?_) (Nat.mul_le_mul_right _ (Nat.min_le_left _ _))
  split
  ·exact h _
  ·exact Nat.zero_le _
 ·rw [List.getD_eq_getElem?_getD,List.getElem?_eq_none (by rw [stepN_len]; omega)]; exact Nat.zero_le _
theorem way_le {K N:Nat} (hK:1≤K) {T:List Int} {ends:List Nat} (h:AllLe ends 1):∀ ws:List Int,AllLe (wayE K N T ends ws) (K ^ ws.length)
 | []=>by simpa [wayE] using h
 | y::ws=>by
  rw [← stepN_wayE hK,List.length_cons,Nat.pow_succ,Nat.mul_comm (K ^ ws.length) K]
  exact step_le hK (way_le hK h ws) (Nat.le_refl _)
theorem limbs_low {l:List Nat} (hn:Norm l) (hne:l≠[]):4294967296 ^ (l.length-1)≤natV l:=by
 obtain ⟨b,x,rfl⟩:∃ b x,l=b++[x]:=⟨l.dropLast,l.getLast hne,(List.dropLast_concat_getLast hne).symm⟩
 have hx:x≠0:=by have:=hn hne; simpa using this
 rw [natV_snoc,List.length_append,List.length_singleton,Nat.add_sub_cancel]
 have:=Nat.mul_le_mul_left (4294967296 ^ b.length) (show 1≤x by omega)
 omega
theorem limbs_le {l:List Nat} (hn:Norm l) {k:Nat} (h:natV l<4294967296 ^ k):l.length≤k:=by
 by_cases hne:l=[]
 ·subst hne; simp
 ·have h1:=limbs_low hn hne
  have h2:4294967296 ^ (l.length-1)<4294967296 ^ k:=Nat.lt_of_le_of_lt h1 h
  have h3:=(Nat.pow_lt_pow_iff_right (show 1<4294967296 by decide)).1 h2
  omega
theorem limbs_four {l:List Nat} (hn:Norm l) {e k:Nat} (h:natV l≤4 ^ e) (he:e<16*k):l.length≤k :=
 limbs_le hn (Nat.lt_of_le_of_lt h (by rw [show (4294967296:Nat)=4 ^ 16 from rfl,← Nat.pow_mul]; exact Nat.pow_lt_pow_right (by decide) he))
def eW:Nat:=300
def eB:Nat:=400
theorem num_len {l:List Nat} (hn:Norm l) (h:natV l≤4 ^ eB):l.length≤1000000:=Nat.le_trans (limbs_four hn h (k:=100) (by decide)) (by decide)
theorem four_le {K n e:Nat} (hK:K≤4) (hn:n≤e):K ^ n≤4 ^ e:=Nat.le_trans (Nat.pow_le_pow_left hK n) (Nat.pow_le_pow_right (by decide) hn)
theorem nat_addN (v u:Value) (n m:Nat) (w:World) (h:NumAt w v n) (k:NumAt w u m) (hn:n≤4 ^ eB) (hm:m≤4 ^ eB) :
 Calls Tryz.prog 216 #[v,u] w (Ret1 (fun x w'=>NumIs w.heap.size w' x (n+m)) w):=by
 obtain ⟨l,h1,h2,h3,rfl⟩:=h
 obtain ⟨l',k1,k2,k3,rfl⟩:=k
 exact nat_add v u l l' w h1 k1 h2 k2 (num_len h3 hn) (num_len k3 hm)
theorem EOwn.drew {B:Nat} {w:World} {t:PErr} {v:Value} (h:EOwn B w t v):EOwn B w.drew t v:=by
 match t,h with
 | none,h=>exact h
 | some (n,l),h=>exact h
end Go.Proofs.YtindfaehjoileaaGreatDoor
namespace Go.Proofs.YtindfaehjoileaaGreatDoor
open Go.RowKit
set_option maxRecDepth 100000
theorem symbol_any (K R:Nat) (va:Option Addr) (vn vc:Nat) (T:List Int) (u:Value) (ys:List Int) (w:World) (h:IntsAt w (.slice va vn vc) T) (hr:RuleOk K R T) (hu:IntsAt w u ys) (hy:Syms K ys) (hyl:ys.length=2*R+1) :
 Calls Tryz.prog 182 #[.agg #[.int .i64 K,.int .i64 R,.slice va vn vc],u] w (Ret1 (fun x _=>x=.int .i64 (T.getD (numW K ys) 0)) w):=by
 have hb0:=belowAlloc w (.cells #[.int .i64 K,.int .i64 R,.slice va vn vc] 124)
 have hR:=hr.r3
 have hk1:=hr.k1
 have hk4:=hr.k4
 have l1:=hu.len
 have hb7:ys.length≤7:=by omega
 have hnl:numW K ys<T.length:=by rw [hr.len,← hyl]; exact numW_lt ys hy
 generalize hy0:T.getD (numW K ys) 0=y0
 replace hy0:=Hd hy0
 replace hnl:=Hd hnl
 replace hyl:=Hd hyl
 replace h:=Hd (h.below hb0)
 replace hu:=Hd (hu.below hb0)
 replace hy:=Hd hy
 replace hr:=Hd hr
 obtain ⟨ua,un,uc,rfl⟩:=hu.out.shape
 go_enter Tryz.func182,Tryz.ntmps182
 go_wp2
 go_loop [5,10] (fun n i=>∃ j:Nat,j≤ys.length∧i=.int .i64 j∧n=.int .i64 (numW K (ys.take j))) (fun _ i=>ys.length-(intOf i).toNat)
 case atStart=>exact ⟨0,by omega,rfl,rfl⟩
 case round =>
  obtain ⟨j,hj,rfl,rfl⟩:=hrel
  by_cases hjl:j<ys.length
  ·have i1:=hu.out.idx j hjl
   have c1:=hu.out.cell j hjl
   have hx:=hy.out ys[j] (by simp)
   have hn:Hid (numW K (ys.take (j+1))=numW K (ys.take j)*K+ys[j].toNat):=by
    show _=_
    rw [take_snoc ys j hjl,numW_snoc]
   have hn2:numW K (ys.take j)≤16384:=by
    have h1:=numW_lt (ys.take j) (fun x hx=>hy.out x (List.mem_of_mem_take hx))
    have h2:=pw_le hk1 hk4 (i:=(ys.take j).length) (by simp; omega)
    omega
   generalize ys[j]=x at c1 hx hn
   generalize numW K (ys.take j)=N at hn hn2
   have hm1:0≤(N:Int)*(K:Int):=Int.mul_nonneg (by omega) (by omega)
   have hm2:(N:Int)*(K:Int)≤65536:=by
    have:N*K≤65536:=Nat.mul_le_mul hn2 hk4
    have h2:=Int.ofNat_le.2 this
    rw [Int.natCast_mul] at h2
    exact h2
   go_wp2
   go_round
   case rel=>exact ⟨j+1,by omega,by go_num,by rw [hn.out]; go_num⟩
   case measure=>simp [intOf]; omega
  ·obtain rfl:j=ys.length:=by omega
   rw [List.take_length]
   have i2:=h.out.idx (numW K ys) hnl.out
   have c2:=h.out.cellD (numW K ys) hnl.out
   rw [hy0.out] at c2
   clear hy0 hnl
   generalize numW K ys=N at i2 c2
   go_wp2
   go_ret
   exact ⟨_,rfl,hb0,rfl⟩
theorem run_makeI (C:Int) (n:Nat) (w:World) (hC:C=n) (hn:n≤17592186044416) :
 ∃ v w',(Instr.makeSlice 30 (.int .i64 C) (.int .i64 C)).run Tryz.prog w=.ok v w'∧OwnI w.heap.size w' v (List.replicate n 0)∧Below w.heap.size w w':=by
 subst hC
 obtain ⟨i,hi,hz0,hz1,hz2⟩:=info_parts iInt
 obtain ⟨w',hrun,r1,r2⟩:=run_make_full (P:=Tryz.prog) w w.heap.size 30 3 i (.int .i64 0) 1 uInts hi hz0 hz1 .i64 .i64 n (by rw [hz2]; omega) (by unfold maxLen; omega) (Nat.le_refl _)
 refine ⟨_,w',hrun,?_,(Below.refl _ _).grown r2 (Nat.le_refl _) (by intro k hk; cases hk)⟩
 have e:(madeCells (Value.cells (.int .i64 0)) (n*1)).toList=(List.replicate n (0:Int)).map (Value.int .i64):=by
  rw [show Value.cells (.int .i64 0)=#[.int .i64 0] from rfl,toList_madeCells_one]; simp
 rw [e] at r1
 simpa [OwnI] using r1
theorem OwnI.post {B:Nat} {w:World} {v:Value} {xs:List Int} (h:OwnI B w v xs) (off:Nat) (ho:off≤xs.length) :
 ∃ dp dLen dCap,(∀ w',(Instr.slice 30 v (some (.int .i64 off)) none none).run Tryz.prog w'=.ok (.slice dp dLen dCap) w')∧dLen=xs.length-off∧(0<xs.length-off→dp=some (valAt v off)):=by
 rcases h.2 with ⟨rfl,hn⟩ | ⟨g,cap,cur,rfl,hB,hg,hn,hm,hs,ht⟩
 ·have hr:∀ w',(Instr.slice 30 (.slice none 0 0) (some (.int .i64 off)) none none).run Tryz.prog w'=.ok (sliced none off 0 0 1) w':=by
   intro w'
   rw [run_slice_l w' 30 none 0 0 uIntsE .i64 off (by omega) (by omega),eInts,sInt]
   rfl
  exact ⟨_,_,_,hr,by omega,by intro hh; omega⟩
 ·have hr:∀ w',(Instr.slice 30 (.slice (some ⟨g,0,none⟩) xs.length cap) (some (.int .i64 off)) none none).run Tryz.prog w'=.ok (sliced (some ⟨g,0,none⟩) off xs.length cap 1) w':=by
   intro w'
   rw [run_slice_l w' 30 (some ⟨g,0,none⟩) xs.length cap uIntsE .i64 off (by omega) (by omega),eInts,sInt]
   rfl
  refine ⟨_,_,_,hr,rfl,fun hh=>?_⟩
  rw [if_neg (by omega),valAt_row]
  simp [Addr.add]
  intro e; exact e.symm
set_option maxHeartbeats 8000000
def madeP (K n:Nat) (s:List Int→Int) (m:Nat):List Int:=(List.range m).map fun x=>s (digs K n x)
theorem madeP_length (K n:Nat) (s:List Int→Int) (m:Nat):(madeP K n s m).length=m:=by simp [madeP]
theorem madeP_set (K n:Nat) (s:List Int→Int) (m P:Nat) (h:m<P):(madeP K n s m++List.replicate (P-m) (0:Int)).set m (s (digs K n m))=madeP K n s (m+1)++List.replicate (P-(m+1)) 0:=by
 rw [List.set_append_right _ _ (by rw [madeP_length]; exact Nat.le_refl _),madeP_length,Nat.sub_self,show P-m=(P-(m+1))+1 by omega,List.replicate_succ,List.set_cons_zero,madeP,madeP,List.range_succ,List.map_append,List.append_assoc]
 rfl
theorem made_two0 (K R F:Nat) (c1 c2:Value) (s:List Int→Int) (w:World) (hk1:1≤K) (hk4:K≤4) (hR:R≤3)
 (eg:∀ args w,(callFunc F args).run Tryz.prog w=.ok (.enter F args) w)
 (hF:∀ (v:Value) (ys:List Int) (w':World),Below w.heap.size w w'→IntsAt w' v ys→Syms K ys→ys.length=2*R+1→Calls Tryz.prog F #[v,c1,c2] w' (Ret1 (fun x _=>x=.int .i64 (s ys)) w')) :
 Calls Tryz.prog 178 #[.int .i64 K,.int .i64 R,.func (.func F) #[] #[c1,c2]] w (Ret1 (fun x w'=>∃ a n c,x=.agg #[.int .i64 K,.int .i64 R,.slice a n c]∧OwnI w.heap.size w' (.slice a n c) (madeP K (2*R+1) s (pw K (2*R+1)))) w):=by
 have hpl:=pw_le hk1 hk4 (i:=2*R+1) (by omega)
 replace hF:=Hd hF
 go_enter Tryz.func178,Tryz.ntmps178
 go_wp2_with fail
 refine (size_ok K R _ hk1 hk4 hR).mono ?_
 rintro e w' ⟨rfl,rfl⟩
 go_wp2_with fail
 have hb0:=belowAlloc w (.cells #[.int .i64 0,.int .i64 0,.slice none 0 0] 124)
 obtain ⟨tv,w1,hmk,ho1,hb1⟩:=run_makeI ((pw K (2*R+1):Nat):Int) (pw K (2*R+1)) (w.alloc (.cells #[.int .i64 0,.int .i64 0,.slice none 0 0] 124)) rfl (by omega)
 obtain ⟨ta,tn,tc,rfl⟩:=ho1.at.shape
 rw [hmk]
 simp only [Result.andThen]
 clear hmk
 generalize hN:2*R+1=N at *
 go_wp2_with fail
 obtain ⟨wv,w2,hmk2,ho2,hb2⟩:=run_makeI (2*(R:Int)+1) N (w1.alloc (.cells #[.int .i64 K,.int .i64 R,.slice ta tn tc] 124)) (by omega) (by omega)
 obtain ⟨wa,wn,wc,rfl⟩:=ho2.at.shape
 rw [hmk2]
 simp only [Result.andThen]
 clear hmk2
 obtain ⟨z0,z1,z2,-,-,-⟩:=cells3 hb2
 have lt:=(ho1.at.len)
 rw [List.length_replicate] at lt
 have hN7:N≤7:=by omega
 replace hN:=Hd hN
 have ltb:∀ k,(Value.slice ta tn tc).ownBlock=some k→k<w1.heap.size:=fun k hk=>(ho1.lt k hk).2
 have lwn:=ho2.at.len
 rw [List.length_replicate] at lwn
 have ho1':=Hd ((ho1.alloc (.cells #[.int .i64 K,.int .i64 R,.slice ta tn tc] 124)).below hb2)
 have zz:=Hd (And.intro z0 (And.intro z1 z2))
 have hbw:=Hd (hb1.trans ((Below.step (belowAlloc w1 (.cells #[.int .i64 K,.int .i64 R,.slice ta tn tc] 124)) hb2).mono hb1.size))
 replace ho2:=Hd ho2
 replace ltb:=Hd ltb
 have hsz1:=hb1.size
 simp at hsz1
 have hM:pw K N=pw K N:=rfl
 clear hM
 go_wp2
 go_loopw [32] (fun i wr=>∃ m:Nat,m≤pw K N∧i=.int .i64 m∧OwnI (w.heap.size+1) wr (.slice ta tn tc) (madeP K N s m++List.replicate (pw K N-m) 0)∧(∃ p:List Int,p.length=N∧OwnI (w1.heap.size+1) wr (.slice wa wn wc) p) ∧
  (wr.cell? ⟨w1.heap.size,0,none⟩=some (.int .i64 K)∧wr.cell? ⟨w1.heap.size,1,none⟩=some (.int .i64 R)∧wr.cell? ⟨w1.heap.size,2,none⟩=some (.slice ta tn tc)) ∧
  Below (w.heap.size+1) (w.alloc (.cells #[.int .i64 0,.int .i64 0,.slice none 0 0] 124)) wr) (fun i _=>pw K N-(intOf i).toNat)
 case atStart=>exact ⟨0,by omega,rfl,by simpa [madeP] using ho1'.out,⟨List.replicate N 0,by simp,by simpa using ho2.out⟩,zz.out,by simpa using hbw.out⟩
 case round =>
  obtain ⟨m,hm,rfl,hT,⟨p,hp,hP⟩,hz,hbO⟩:=hrel
  obtain ⟨wo,rfl⟩:∃ wo:World,wo=wr:=⟨_,rfl⟩
  replace hz:=Hd hz
  replace hT:=Hd hT
  by_cases hml:m<pw K N
  ·have hsz2:w1.heap.size<wo.heap.size:=World.block_lt_of_cell? _ _ hz.out.1
   have hK0:((K:Int)==0)=false:=by rw [beq_eq_false_iff_ne]; omega
   have hK1:¬ (K:Int)=0:=by omega
   have hK2:(0:Int)<K:=by omega
   go_wp2
   go_loopw [12,38] (fun x i wr=>∃ j:Nat,j≤N∧i=.int .i64 j∧x=.int .i64 (m/pw K j:Nat)∧OwnI (w1.heap.size+1) wr (.slice wa wn wc) (p.take (N-j)++(digs K N m).drop (N-j))∧Below (w1.heap.size+1) wo wr) (fun _ i _=>N-(intOf i).toNat)
   case atStart=>exact ⟨0,by omega,rfl,by simp [pw],by rw [Nat.sub_zero,List.drop_of_length_le (by rw [digs_length]; exact Nat.le_refl _),List.append_nil,List.take_of_length_le (by omega)]; exact hP,Below.refl _ _⟩
   case round =>
    obtain ⟨j,hj,rfl,rfl,hO,hbI⟩:=hrel
    obtain ⟨wi,rfl⟩:∃ wi:World,wi=wr:=⟨_,rfl⟩
    by_cases hjl:j<N
    ·have hXl:(p.take (N-j)++(digs K N m).drop (N-j)).length=N:=by simp [digs_length]; omega
     have i1:∀ w',(Instr.indexAt 30 (.slice wa wn wc) (.int .i64 ((N:Int)-1-(j:Int)))).run Tryz.prog w'=.ok (.pointer (some (valAt (.slice wa wn wc) (N-1-j)))) w':=by
      intro w'
      have:=hO.at.idxI ((N:Int)-1-(j:Int)) (by omega) (by rw [hXl]; omega) w'
      rwa [show ((N:Int)-1-(j:Int)).toNat=N-1-j by omega] at this
     have c1:=hO.at.cellD (N-1-j) (by rw [hXl]; omega)
     have f1:=hO.frz (N-1-j) (by rw [hXl]; omega)
     have hS:=hO.set (N-1-j) (by rw [hXl]; omega) ((m/pw K j%K:Nat):Int)
     have hbS:=hO.setBelow hbI (N-1-j) (by rw [hXl]; omega) (.int .i64 ((m/pw K j%K:Nat):Int))
     rw [digs_fill K N m j hjl p hp] at hS
     replace hS:=Hd hS
     replace hbS:=Hd hbS
     have hqd:m/pw K j/K=m/pw K (j+1):=by rw [Nat.div_div_eq_div_mul,← pw_succ]
     replace hqd:=Hd hqd
     have hql:m/pw K j≤16384:=Nat.le_trans (Nat.div_le_self _ _) (by omega)
     generalize (p.take (N-j)++(digs K N m).drop (N-j)).getD (N-1-j) 0=y at c1
     clear hXl hO
     generalize m/pw K j=q at *
     rw [Int.natCast_emod] at hS hbS
     have hd0:0≤(q:Int)/(K:Int):=Int.ediv_nonneg (by omega) (by omega)
     have hd1:(q:Int)/(K:Int)≤16384:=by
      have h1:q/K≤q:=Nat.div_le_self _ _
      have h2:q/K≤16384:=by omega
      exact_mod_cast h2
     have hdw:IntKind.i64.wrap ((q:Int)/(K:Int))=(q:Int)/(K:Int):=wrapK (by omega) (by omega)
     go_wp2
     go_roundw
     case rel=>exact ⟨j+1,by omega,by go_num,by rw [← hqd.out]; simp,hS.out,hbS.out⟩
     case measure=>simp [intOf]; omega
    ·have hjN:j=N:=by omega
     subst hjN
     rw [Nat.sub_self,List.take_zero,List.drop_zero,List.nil_append] at hO
     have hbW:Below w.heap.size w wi:=((belowAlloc w _).trans (hbO.mono (by omega))).trans (hbI.mono (by omega))
     have hz2:=hbI.cell (p:=⟨w1.heap.size,2,none⟩) (by simp)
     have hTl:m<(madeP K j s m++List.replicate (pw K j-m) (0:Int)).length:=by simp [madeP_length]; omega
     have hTi:=hT.out.belowB hbI (fun k hk=>by have:=ltb.out k hk; omega)
     have i2:=hTi.at.idx m hTl
     have c2:=hTi.at.cellD m hTl
     have f2:=hTi.frz m hTl
     have b2:=hTi.at.blk m hTl
     have z2i:=hz2.trans hz.out.2.2
     have zbi:(⟨w1.heap.size,2,none⟩:Addr).block<wi.heap.size:=World.block_lt_of_cell? _ _ z2i
     generalize (madeP K j s m++List.replicate (pw K j-m) (0:Int)).getD m 0=o at c2
     replace hTi:=Hd hTi
     replace hO:=Hd hO
     replace hbW:=Hd hbW
     replace hTl:=Hd hTl
     clear hz2
     have hvb:(valAt (.slice ta tn tc) m).block≠w1.heap.size:=by
      have:=ltb.out _ (hT.out.toV.blkB m (by simpa using hTl.out)).1
      omega
     have hdl:m+1≤pw K j:=hml
     go_wp2
     go_region_held3 (fun w'=>w'.cell? ⟨w1.heap.size,2,none⟩=some (.slice ta tn tc)) (go_keep)
      (first | (refine (hF.out _ (digs K j m) _ (by first | exact hbW.out.drew | exact hbW.out) (by first | exact hO.out.at.drew | exact hO.out.at) (digs_syms hk1 _ _) (by rw [digs_length])).mono ?_; rintro e w5 ⟨x5,rfl,hb5,rfl⟩; have y1:=(hb5.cell zbi).trans z2i; have y2:=(hb5.cell b2).trans c2; have y3:=(hb5.frozen b2).trans f2; have bb:Below wi.heap.size wi w5:=((Below.refl _ _).drew).trans hb5))
     have hT5:=(hTi.out.drew.below hb5).set m hTl.out (s (digs K j m))
     rw [madeP_set K j s m _ hml] at hT5
     have hO5:=(hO.out.drew.below hb5).setOther (hTi.out.drew.below hb5) (by
      intro e
      have e1:=(hT.out.toV.blkB m (by simpa using hTl.out)).1
      have e2:=(hO.out.lt _ (e.trans e1)).1
      have e3:=ltb.out _ e1
      omega) m hTl.out (.int .i64 (s (digs K j m)))
     have hB5:=((hbO.trans (hbI.mono (by omega))).trans (bb.mono (by omega))).setCell ((hTi.out.blkB m hTl.out)) (.int .i64 (s (digs K j m)))
     have x0:=(World.cell?_setCell_far w5 (valAt (.slice ta tn tc) m) ⟨w1.heap.size,0,none⟩ (.int .i64 (s (digs K j m))) hvb).trans (((bb.cell (p:=⟨w1.heap.size,0,none⟩) zbi)).trans ((hbI.cell (p:=⟨w1.heap.size,0,none⟩) (by simp)).trans hz.out.1))
     have x1:=(World.cell?_setCell_far w5 (valAt (.slice ta tn tc) m) ⟨w1.heap.size,1,none⟩ (.int .i64 (s (digs K j m))) hvb).trans (((bb.cell (p:=⟨w1.heap.size,1,none⟩) zbi)).trans ((hbI.cell (p:=⟨w1.heap.size,1,none⟩) (by simp)).trans hz.out.2.1))
     have x2:=(World.cell?_setCell_far w5 (valAt (.slice ta tn tc) m) ⟨w1.heap.size,2,none⟩ (.int .i64 (s (digs K j m))) hvb).trans y1
     have xx:=Hd (And.intro x0 (And.intro x1 x2))
     clear x0 x1 x2
     replace hT5:=Hd hT5
     replace hO5:=Hd hO5
     replace hB5:=Hd hB5
     go_wp2
     go_roundw
     case rel=>exact ⟨m+1,by omega,by go_num,hT5.out,⟨digs K j m,digs_length ..,hO5.out⟩,xx.out,hB5.out⟩
     case measure=>simp [intOf]; omega
  ·obtain rfl:m=pw K N:=by omega
   rw [Nat.sub_self,List.replicate_zero,List.append_nil] at hT
   obtain ⟨z0,z1,z2⟩:=hz.out
   obtain ⟨y0,y1,y2,f0,f1,f2⟩:=cells3 (w:=w) (show Below (w.alloc (.cells #[.int .i64 0,.int .i64 0,.slice none 0 0] 124)).heap.size _ wo by simpa using hbO)
   replace hbO:=Hd hbO
   go_wp2
   refine bodyPost_ret (v:=.agg #[.int .i64 K,.int .i64 R,.slice ta tn tc]) (by simp [results,Tryz.results178,go_sem,y0,y1,y2]) rfl ⟨_,rfl,?_,ta,tn,tc,rfl,?_⟩
   ·exact (((belowAlloc w _).trans (hbO.out.mono (by omega))).setCell (by simp) _).setCell (by simp) _ |>.setCell (by simp) _
   ·rw [hN.out]; exact (((hT.out.setBelowBase (a:=⟨w.heap.size,0,none⟩) (by simp) _).setBelowBase (a:=⟨w.heap.size,1,none⟩) (by simp) _).setBelowBase (a:=⟨w.heap.size,2,none⟩) (by simp) _).mono (Nat.le_succ _)
theorem made_two (K R F:Nat) (c1 c2:Value) (s:List Int→Int) (w:World) (hk1:1≤K) (hk4:K≤4) (hR:R≤3) (Ri:Int) (hRi:Ri=R)
 (eg:∀ args w,(callFunc F args).run Tryz.prog w=.ok (.enter F args) w)
 (hF:∀ (v:Value) (ys:List Int) (w':World),Below w.heap.size w w'→IntsAt w' v ys→Syms K ys→ys.length=2*R+1→Calls Tryz.prog F #[v,c1,c2] w' (Ret1 (fun x _=>x=.int .i64 (s ys)) w')) :
 Calls Tryz.prog 178 #[.int .i64 K,.int .i64 Ri,.func (.func F) #[] #[c1,c2]] w (Ret1 (fun x w'=>∃ a n c,x=.agg #[.int .i64 K,.int .i64 R,.slice a n c]∧OwnI w.heap.size w' (.slice a n c) (madeP K (2*R+1) s (pw K (2*R+1)))) w):=by
 subst hRi
 exact made_two0 K R F c1 c2 s w hk1 hk4 hR eg hF
end Go.Proofs.YtindfaehjoileaaGreatDoor
namespace Go.Proofs.YtindfaehjoileaaGreatDoor
open Go.RowKit
set_option maxRecDepth 100000
def sForms:ByteArray:=⟨#[102,111,114,109,115]⟩
theorem forms_check (r:Nat→Addr) (at_:Int) (k R:Int) (va:Option Addr) (vn vc:Nat) (xs:List Int) (w:World) (hg:Glob r w) (h:IntsAt w (.slice va vn vc) xs) :
 Calls Tryz.prog 177 #[.int .i64 at_,.agg #[.int .i64 k,.int .i64 R,.slice va vn vc]] w (Ret1 (fun x w'=>ErrIs r w' (under sForms at_ (checkP k R xs)) x) w):=by
 have hb0:=belowAlloc w (.cells #[.int .i64 k,.int .i64 R,.slice va vn vc] 124)
 replace hg:=Hd (hg.below hb0)
 replace h:=Hd (h.below hb0)
 go_enter Tryz.func177,Tryz.ntmps177
 go_wp2_with fail
 refine (check_any r k R _ xs _ hg.out h.out).mono ?_
 rintro e w1 ⟨x,rfl,hb,he⟩
 go_wp2_with fail
 refine (under_any r _ _ _ _ _ he).mono ?_
 rintro e w2 ⟨x,rfl,hb',he⟩
 go_wp2
 go_ret
 exact ⟨_,rfl,Below.step hb0 (Below.step hb hb'),he⟩
set_option maxHeartbeats 8000000
theorem set_sameC {q:List Nat} {t:Nat}:q.set t (q.getD t 0+0)=q:=by
 refine List.ext_getElem (by simp) fun i h1 h2=>?_
 by_cases c:t=i
 ·subst c; rw [List.getElem_set_self]; simp [List.getD,h2]
 ·rw [List.getElem_set_ne c]
theorem stepN_zero {K N:Nat} {T:List Int} {at_:List Nat} {y:Int} {j:Nat} (h:at_.getD (j%N) 0=0):stepN K N T at_ y (j+1)=stepN K N T at_ y j:=by
 show (if T.getD j 0=y then _ else _)=_
 split
 ·rw [h]; exact set_sameC
 ·rfl
theorem stepN_no {K N:Nat} {T:List Int} {at_:List Nat} {y:Int} {j:Nat} (h:¬ T.getD j 0=y):stepN K N T at_ y (j+1)=stepN K N T at_ y j:=by
 show (if T.getD j 0=y then _ else _)=_
 rw [if_neg h]
theorem stepN_yes {K N:Nat} {T:List Int} {at_:List Nat} {y:Int} {j:Nat} (h:T.getD j 0=y):stepN K N T at_ y (j+1)=(stepN K N T at_ y j).set (j/K) ((stepN K N T at_ y j).getD (j/K) 0+at_.getD (j%N) 0):=by
 show (if T.getD j 0=y then _ else _)=_
 rw [if_pos h]
theorem num_zero {w:World} {a:Option Addr} {m c n:Nat} (h:NumAt w (.slice a m c) n):m=0↔n=0:=by
 obtain ⟨l,h1,h2,h3,h4⟩:=h
 obtain ⟨a',c',e,_⟩:=h1
 injection e with _ e
 rw [limbs_len] at e
 constructor
 ·intro hm
  have:l=[]:=List.eq_nil_of_length_eq_zero (by omega)
  subst this
  exact h4.symm
 ·intro hn
  subst hn
  have:=limbs_le h3 (k:=0) (by rw [h4]; decide)
  omega
theorem count_ways {Fn:Nat} (K R N:Nat) (va:Option Addr) (vn vc:Nat) (T:List Int) (ev:Value) (evs:List Value) (es:List Nat) (ws:List Int) (b c:Value) (w:World) (h:IntsAt w (.slice va vn vc) T) (hev:ValsAt w ev evs) (hes:NumsIn w evs es) (hN:es.length=N) (hT:T.length=N*K) (h1:1≤N) (hk1:1≤K) (hk4:K≤4) (hl:T.length≤256) (hws:ws.length≤256) (hle:AllLe es 1)
 (eg:∀ args w,(callFunc Fn args).run Tryz.prog w=.ok (.enter Fn args) w)
 (hF:∀ W,Below w.heap.size w W→∀ p j:Nat,p<ws.length→j<T.length→Calls Tryz.prog Fn #[.int .i64 p,.int .i64 j,b,c] W (RetB (decide (T.getD j 0=ws.getD p 0)) W)) :
 Calls Tryz.prog 295 #[.agg #[.int .i64 K,.int .i64 R,.slice va vn vc],.int .i64 ws.length,ev,.func (.func Fn) #[] #[b,c]] w (Ret1 (fun x w'=>∃ xs,ValsAt w' x xs∧NumsIn w' xs (wayE K N T es ws)) w):=by
 have b0:=belowAlloc w (.cells #[.int .i64 K,.int .i64 R,.slice va vn vc] 124)
 have q:Box3 (w.alloc (.cells #[.int .i64 K,.int .i64 R,.slice va vn vc] 124)) w.heap.size (.int .i64 K) (.int .i64 R) (.slice va vn vc):=by simp [Box3,go_sem]
 have hN256:N≤256:=by
  have:=Nat.le_mul_of_pos_right N (show 0<K by omega)
  omega
 obtain ⟨ea,ec,rfl⟩:∃ a c,ev=.slice a evs.length c:=by
  obtain ⟨a,c,e,-⟩:=hev
  exact ⟨a,c,e⟩
 have hevl:=hes.len
 rw [hN] at hevl
 rw [hevl] at hev ⊢
 obtain ⟨L,hL⟩:∃ L,ws.length=L:=⟨_,rfl⟩
 rw [hL] at hws hF ⊢
 obtain ⟨w0,hw0⟩:∃ W:World,w.alloc (.cells #[.int .i64 K,.int .i64 R,.slice va vn vc] 124)=W:=⟨_,rfl⟩
 rw [hw0] at b0 q
 replace h:=Hd (h.below b0)
 replace hev:=Hd (hev.below b0)
 replace hes:=Hd (hes.below b0)
 have hF0:∀ W,Below w0.heap.size w0 W→∀ p j:Nat,p<L→j<T.length→Calls Tryz.prog Fn #[.int .i64 p,.int .i64 j,b,c] W (RetB (decide (T.getD j 0=ws.getD p 0)) W):=fun W hb=>hF W (Below.step b0 hb)
 replace hF0:=Hd hF0
 replace hL:=Hd hL
 replace hT:=Hd hT
 replace hN:=Hd hN
 replace hle:=Hd hle
 replace hw0:=Hd hw0
 obtain ⟨g,hg⟩:∃ g,w.heap.size=g:=⟨_,rfl⟩
 clear hF hevl
 go_enter Tryz.func295,Tryz.ntmps295
 go_upto_region 1 with fail
 rw [hw0.out]
 rw [hg] at q
 replace hg:=Hd hg
 go_wp2_with fail
 go_loopw [10,11] (fun av pv wr=>∃ (p:Nat) (pi:Int) (aw:Value) (avs:List Value),aw=av∧pv=.int .i64 pi∧pi=(p:Int)-1∧p≤L∧ValsAt wr aw avs∧NumsIn wr avs (wayE K N T es (ws.drop p))∧Below w0.heap.size w0 wr) (fun _ pv _=>(intOf pv+1).toNat)
 case atStart =>
  refine ⟨L,_,_,_,rfl,rfl,by omega,Nat.le_refl _,hev.out,?_,Below.refl _ _⟩
  rw [← hL.out,List.drop_length]; exact hes.out
 case round =>
  obtain ⟨p,pi,aw,avs,rfl,rfl,hpi,hp,hAv,hAn,hB⟩:=hrel
  obtain ⟨wo,rfl⟩:∃ wo:World,wo=wr:=⟨_,rfl⟩
  obtain ⟨aa,ac,rfl⟩:∃ a c,aw=.slice a avs.length c:=by
   obtain ⟨a,c,e,-⟩:=hAv
   exact ⟨a,c,e⟩
  have haN:avs.length=N:=by
   have:=hAn.len
   rw [this,wayE_len hN.out]
  by_cases hp0:p=0
  ·subst hp0
   obtain rfl:pi=-1:=by omega
   clear hpi
   have dp:decide ((-1:Int)≥0)=false:=by decide
   have hfin:∃ xs,ValsAt wo (.slice aa avs.length ac) xs∧NumsIn wo xs (wayE K N T es ws):=⟨avs,hAv,hAn⟩
   have bE:=Below.step b0 hB
   replace hfin:=Hd hfin
   replace hAv:=Hd hAv
   replace hAn:=Hd hAn
   go_wp2
   go_ret
   exact ⟨_,rfl,bE,hfin.out⟩
  ·obtain ⟨p',rfl⟩:∃ p',p=p'+1:=⟨p-1,by omega⟩
   obtain rfl:pi=(p':Int):=by omega
   clear hpi
   have dp:decide ((p':Int)≥0)=true:=decide_eq_true (by omega)
   have hdrop:ws.drop p'=ws.getD p' 0::ws.drop (p'+1):=by
    have hlt:p'<ws.length:=by rw [hL.out]; omega
    rw [List.drop_eq_getElem_cons hlt]; simp [List.getD,hlt]
   have hnext:=stepN_wayE hk1 (K:=K) (N:=N) (T:=T) (y:=ws.getD p' 0) (ws:=ws.drop (p'+1)) (ends:=es)
   rw [← hdrop] at hnext
   have hbnd:=way_le (N:=N) (T:=T) hk1 hle.out (ws.drop (p'+1))
   have hbl:(ws.drop (p'+1)).length≤256:=by rw [List.length_drop,hL.out]; omega
   obtain ⟨y,hy⟩:∃ y,ws.getD p' 0=y:=⟨_,rfl⟩
   obtain ⟨A,hA⟩:∃ A,wayE K N T es (ws.drop (p'+1))=A:=⟨_,rfl⟩
   rw [hA] at hAn hnext hbnd
   rw [hy] at hnext
   have hAlen:A.length=N:=by rw [← hAn.len]; exact haN
   have hbA:AllLe A (4 ^ eW):=fun i=>Nat.le_trans (hbnd i) (four_le hk4 (by unfold eW; omega))
   have hbS:∀ j,j≤N*K→AllLe (stepN K N T A y j) (4 ^ (eW+1)):=fun j hj i=>Nat.le_trans (step_le hk1 hbA hj i) (by rw [Nat.pow_succ,Nat.mul_comm]; exact Nat.mul_le_mul_left _ hk4)
   have hFp:=fun (W:World) (hb:Below w0.heap.size w0 W) (j:Nat) (hj:j<T.length)=>hF0.out W hb p' j (by omega) hj
   rw [hy] at hFp
   obtain ⟨⟨z0,z1,z2⟩,-,-,-⟩:=q.below hB
   have qo:=q.below hB
   replace hFp:=Hd hFp
   replace hnext:=Hd hnext
   replace hbA:=Hd hbA
   replace hbS:=Hd hbS
   replace hA:=Hd hA
   replace hy:=Hd hy
   replace hdrop:=Hd hdrop
   replace hAv:=Hd hAv
   replace hAn:=Hd hAn
   replace hAlen:=Hd hAlen
   clear hbnd hp0
   obtain ⟨tl,htl⟩:∃ t,T.length=t:=⟨_,rfl⟩
   have vt:vn=tl:=by
    obtain ⟨a',c',e,_⟩:=h.out
    injection e with _ e
    rw [e,htl]
   subst vt
   have hvn:vn≤256:=by omega
   replace htl:=Hd htl
   replace haN:=Hd haN
   go_wp2_with (at_make; refine wpl_makeV oneNats rfl _ _ rfl (N:Int) rfl rfl (by omega) (by omega) ?_)
   intro hv w1 ho1 g1
   have b1:Below wo.heap.size wo w1:=(Below.refl _ _).grown g1 (Nat.le_refl _) (by intro k hk; cases hk)
   obtain ⟨ha,hn,hc,rfl⟩:=ho1.shape
   replace ho1:OwnV 129 wo.heap.size w1 (.slice ha hn hc) (List.replicate N (.slice none 0 0)):=by simpa using ho1
   replace ho1:=Hd ho1
   clear z0 z1 z2 g1
   obtain ⟨⟨z0,z1,z2⟩,-,-,-⟩:=qo.below b1
   go_wp2_with fail
   clear z0 z1 z2
   go_loopw [29] (fun jv wr=>∃ (j:Nat) (hvs:List Value),jv=.int .i64 j∧j≤vn∧OwnV 129 wo.heap.size wr (.slice ha hn hc) hvs∧NumsIn wr hvs (stepN K N T A y j)∧Below wo.heap.size wo wr) (fun jv _=>vn-(intOf jv).toNat)
   case atStart=>exact ⟨0,_,rfl,Nat.zero_le _,ho1.out,NumsIn.zeros _ _,b1⟩
   case round =>
    clear ho1 b1
    obtain ⟨j,hvs,rfl,hj,hO,hS,hBj⟩:=hrel
    obtain ⟨wi,rfl⟩:∃ wo:World,wo=wr:=⟨_,rfl⟩
    by_cases hjl:j<vn
    ·have dj:decide ((j:Int)<(vn:Int))=true:=decide_eq_true (by omega)
     have hBo:=hB.trans (hBj.mono hB.size)
     have hAi:=hAv.out.below hBj
     have hAni:=hAn.out.below hBj
     have hm:=Nat.mod_lt j (show N>0 by omega)
     have hm':j%N<avs.length:=by rw [haN.out]; exact hm
     have iA:=fun w'=>hAi.idx oneNats (j%N) hm' w'
     have cA:=hAi.cell (j%N) hm'
     have nA:=hAni.each (j%N) (by rw [hAlen.out]; exact hm)
     rw [getD_at hm'] at nA
     obtain ⟨mv,hmv⟩:∃ v,avs[j%N]'hm'=v:=⟨_,rfl⟩
     rw [hmv] at cA nA
     obtain ⟨ma,mn,mc,rfl⟩:=nA.shape
     obtain ⟨xa,hxa⟩:∃ a,valAt (.slice aa avs.length ac) (j%N)=a:=⟨_,rfl⟩
     rw [hxa] at iA cA
     have hmod:(j:Int).tmod (N:Int)=((j%N:Nat):Int):=by rw [Int.tmod_eq_emod_of_nonneg (Int.natCast_nonneg _)]; exact (Int.natCast_emod _ N).symm
     have hN0:((N:Int)==0)=false:=by rw [beq_eq_false_iff_ne]; omega
     have hN2:¬ (N:Int)=0:=by omega
     have hN3:¬ N=0:=by omega
     have kz:=fun q=>stepN_zero (K:=K) (N:=N) (T:=T) (at_:=A) (y:=y) (j:=j) q
     have kn:=fun q=>stepN_no (K:=K) (N:=N) (T:=T) (at_:=A) (y:=y) (j:=j) q
     have ky:=fun q=>stepN_yes (K:=K) (N:=N) (T:=T) (at_:=A) (y:=y) (j:=j) q
     have hfc:=hFp.out wi hBo j (by rw [htl.out]; exact hjl)
     have hjK:j/K<N:=Nat.div_lt_of_lt_mul (by have:=hT.out; rw [htl.out,Nat.mul_comm] at this; omega)
     have hbj:=hbS.out j (by have:=hT.out; rw [htl.out] at this; omega) (j/K)
     have hbm:=hbA.out (j%N)
     obtain ⟨sn,hsn⟩:∃ s,stepN K N T A y (j+1)=s:=⟨_,rfl⟩
     obtain ⟨s0,hs0⟩:∃ s,stepN K N T A y j=s:=⟨_,rfl⟩
     rw [hsn] at kz kn ky
     rw [hs0] at hS kz kn ky hbj
     have hs0l:s0.length=N:=by rw [← hs0,stepN_len]
     obtain ⟨am,ham⟩:∃ x,A.getD (j%N) 0=x:=⟨_,rfl⟩
     rw [ham] at nA kz ky hbm
     obtain ⟨yes,hyes⟩:∃ x,decide (T.getD j 0=y)=x:=⟨_,rfl⟩
     rw [hyes] at hfc
     replace hsn:=Hd hsn
     replace hs0:=Hd hs0
     replace ham:=Hd ham
     replace hyes:=Hd hyes
     replace hmv:=Hd hmv
     replace hxa:=Hd hxa
     replace hAi:=Hd hAi
     replace hAni:=Hd hAni
     replace kz:=Hd kz
     replace kn:=Hd kn
     replace ky:=Hd ky
     replace hs0l:=Hd hs0l
     replace hbj:=Hd hbj
     replace hbm:=Hd hbm
     replace nA:=Hd nA
     replace hO:=Hd hO
     replace hS:=Hd hS
     replace hfc:=Hd hfc
     generalize hP:j%N=P at *
     by_cases hmz:mn=0
     ·have e:=kz.out ((num_zero nA.out).1 hmz)
      subst hmz
      replace e:=Hd e
      go_wp2
      go_roundw
      case measure=>simp [intOf]; omega
      case rel=>exact ⟨j+1,hvs,by go_num,by omega,hO.out,by rw [hsn.out,e.out]; exact hS.out,hBj⟩
     ·have hmp:0<mn:=by omega
      have dm:decide ((mn:Int)>0)=true:=decide_eq_true (by omega)
      replace hmz:=Hd hmz
      go_wp2_with fail
      refine hfc.out.mono ?_
      rintro e w2 ⟨n2,rfl,rfl⟩
      have hO2:OwnV 129 wo.heap.size (wi.drewN n2) (.slice ha hn hc) hvs:=hO.out
      have hS2:=hS.out.below (below_drewN (Below.refl wi.heap.size wi) n2)
      have hB2:=below_drewN hBj n2
      clear hfc
      cases yes with
      | false =>
       have e:=kn.out (of_decide_eq_false hyes.out)
       replace e:=Hd e
       replace hO2:=Hd hO2
       replace hS2:=Hd hS2
       go_wp2
       go_roundw
       case measure=>simp [intOf]; omega
       case rel=>exact ⟨j+1,hvs,by go_num,by omega,hO2.out,by rw [hsn.out,e.out]; exact hS2.out,hB2⟩
      | true =>
       have e:=ky.out (of_decide_eq_true hyes.out)
       obtain ⟨W,hW⟩:∃ W:World,(wi.drewN n2).drew=W:=⟨_,rfl⟩
       have hOW:OwnV 129 wo.heap.size W (.slice ha hn hc) hvs:=by rw [← hW]; exact hO2
       have bWd:Below wi.heap.size wi W:=by rw [← hW]; exact (below_drewN (Below.refl wi.heap.size wi) n2).drew
       have hSW:=hS.out.below bWd
       have hBW:=hBj.trans (bWd.mono hBj.size)
       have nAW:=nA.out.below bWd
       have hvl:hvs.length=N:=by rw [hSW.len,hs0l.out]
       obtain ⟨u,hu⟩:∃ u,j/K=u:=⟨_,rfl⟩
       rw [hu] at hjK hbj e
       have hul:u<hvs.length:=by rw [hvl]; exact hjK
       have iU:=fun w'=>hOW.at.idx oneNats u hul w'
       have cU:=hOW.at.cell u hul
       have fU:=hOW.frz u hul
       have nU:=hSW.each u (by rw [hs0l.out]; exact hjK)
       rw [getD_at hul] at nU
       obtain ⟨uv,huv⟩:∃ v,hvs[u]'hul=v:=⟨_,rfl⟩
       rw [huv] at cU nU
       obtain ⟨ua,un,uc,rfl⟩:=nU.shape
       obtain ⟨xu,hxu⟩:∃ a,valAt (.slice ha hn hc) u=a:=⟨_,rfl⟩
       rw [hxu] at iU cU fU
       have hq:(j:Int)/(K:Int)=(u:Int):=by rw [← hu]; rfl
       have hq2:(j:Int).tdiv (K:Int)=(u:Int):=by rw [Int.tdiv_eq_ediv_of_nonneg (Int.natCast_nonneg _),hq]
       have hwq:IntKind.i64.wrap (u:Int)=(u:Int):=wrapK (by omega) (by omega)
       have hK0:((K:Int)==0)=false:=by rw [beq_eq_false_iff_ne]; omega
       have hK2:¬ (K:Int)=0:=by omega
       have hK3:¬ K=0:=by omega
       have hq0:=qo.below hBW
       have hcU0:xu.block<W.heap.size:=World.block_lt_of_cell? _ _ cU
       have hS0:∀ W',Below W.heap.size W W'→W'.cell? ⟨g,0,none⟩=some (.int .i64 K)∧W'.cell? xu=some (.slice ua un uc):=fun W' b=>by
        obtain ⟨⟨k0,_,_⟩,-,-,-⟩:=hq0.below b
        exact ⟨k0,(b.cell hcU0).trans cU⟩
       have hSS:=hS0 _ (Below.refl _ _)
       have hadd:=nat_addN (.slice ua un uc) (.slice ma mn mc) _ _ W nU nAW (Nat.le_trans hbj.out (Nat.pow_le_pow_right (by decide) (by unfold eW eB; omega))) (Nat.le_trans hbm.out (Nat.pow_le_pow_right (by decide) (by unfold eW eB; omega)))
       replace e:=Hd e
       replace hu:=Hd hu
       replace huv:=Hd huv
       replace hxu:=Hd hxu
       replace hOW:=Hd hOW
       replace hSW:=Hd hSW
       replace hadd:=Hd hadd
       replace hS0:=Hd hS0
       replace nU:=Hd nU
       replace nAW:=Hd nAW
       clear hO2 hS2 hB2 cU hq0
       go_upto_region 12 with fail
       refine wp_region_plan (fun W'=>W'.cell? ⟨g,0,none⟩=some (.int .i64 K)∧W'.cell? xu=some (.slice ua un uc)) 15 [(0,true),(1,true),(2,true),(3,true),(4,true),(5,true),(6,true),(7,true),(8,true),(9,true),(10,true),(11,true),(12,true),(13,false),(14,true)] (by kernel_rfl) (by kernel_rfl) ?_
       rw [hW]
       clear hW
       refine pqY 47 hSS ?_
       refine pqY 48 hSS ?_
       refine pqY 49 hSS ?_
       refine pqY 50 hSS ?_
       refine pqY 51 hSS ?_
       refine pqY 52 hSS ?_
       refine pqY 53 hSS ?_
       refine pqY 54 hSS ?_
       refine pqY 55 hSS ?_
       refine pqY 56 hSS ?_
       refine pqY 57 hSS ?_
       refine pqY 58 hSS ?_
       refine pqY 59 hSS ?_
       refine headC rfl (fun KK hK=>?_)
       go_simp
       refine hadd.out.mono ?_
       rintro e2 W2 ⟨rv,rfl,b3,hr⟩
       obtain ⟨ra,rn,rc,rfl⟩:=hr.num.shape
       have hSS2:=hS0.out _ b3
       refine hK _ _ hSS2 ?_
       clear hK KK
       refine pqY 61 hSS2 ?_
       refine head0 ?_
       simp only [List.drop_succ_cons,List.drop_zero]
       have hO3:=hOW.out.below b3
       have hS3:=hSW.out.below b3
       have fU3:=hO3.frz u hul
       have hO4:=hO3.set u hul (.slice ra rn rc)
       have cU3:=hSS2.2
       have hS4:=(hS3.set cU3 (by intro x h; cases h) (.slice ra rn rc)).upd u (hr.num.set cU3 (by intro x h; cases h) (.slice ra rn rc))
       have hB4:=(hBW.trans (b3.mono hBW.size)).setCell (hO3.blkB u hul).2 (.slice ra rn rc)
       rw [hxu.out] at fU3 hO4 hB4
       rw [← e.out] at hS4
       replace hO3:=Hd hO3
       replace hO4:=Hd hO4
       replace hS3:=Hd hS3
       replace hS4:=Hd hS4
       replace hB4:=Hd hB4
       replace hr:=Hd hr
       go_wp2
       refine NoPanic.normal ?_
       go_wp2
       go_roundw
       case measure=>simp [intOf]; omega
       case rel=>exact ⟨j+1,_,by go_num,by omega,hO4.out,by rw [hsn.out]; exact hS4.out,hB4.out⟩
    ·have dj:decide ((j:Int)<(vn:Int))=false:=decide_eq_false (by omega)
     obtain rfl:j=vn:=by omega
     have hS5:NumsIn wi hvs (wayE K N T es (ws.drop p')):=by
      have:=hS
      rw [← htl.out,hT.out,hnext.out] at this
      exact this
     have hOat:=hO.at
     have hBo:=hB.trans (hBj.mono hB.size)
     replace hO:=Hd hO
     replace hS:=Hd hS
     replace hS5:=Hd hS5
     replace hOat:=Hd hOat
     go_wp2
     go_roundw
     case measure=>simp [intOf]
     case rel=>exact ⟨p',_,_,hvs,rfl,rfl,rfl,by omega,hOat.out,hS5.out,hBo⟩
end Go.Proofs.YtindfaehjoileaaGreatDoor
namespace Go.Proofs.YtindfaehjoileaaGreatDoor
open Go.RowKit
set_option maxRecDepth 100000
def sOverlap:ByteArray:=⟨#[111,118,101,114,108,97,112]⟩
def smallP (k R:Int) (T:List Int):PErr :=
 match checkP k R T with
 | some t=>some t
 | none=>if 256<T.length then fresh sRule 0 4 else none
theorem smallP_ok {K R:Nat} {T:List Int} (h:RuleOk K R T):smallP K R T=if 256<T.length then fresh sRule 0 4 else none:=by
 unfold smallP; rw [h.check]
theorem small_any (r:Nat→Addr) (k R:Int) (va:Option Addr) (vn vc:Nat) (T:List Int) (w:World) (hg:Glob r w) (h:IntsAt w (.slice va vn vc) T) :
 Calls Tryz.prog 170 #[.agg #[.int .i64 k,.int .i64 R,.slice va vn vc]] w (Ret1 (fun x w'=>ErrIs r w' (smallP k R T) x) w):=by
 have b0:=belowAlloc w (.cells #[.int .i64 k,.int .i64 R,.slice va vn vc] 124)
 have q:Box3 (w.alloc (.cells #[.int .i64 k,.int .i64 R,.slice va vn vc] 124)) w.heap.size (.int .i64 k) (.int .i64 R) (.slice va vn vc):=by simp [Box3,go_sem]
 have lT:=h.len
 replace hg:=Hd (hg.below b0)
 replace h:=Hd (h.below b0)
 obtain ⟨e0,hsm,he0⟩:∃ e0,(smallP k R T=match e0 with | some t=>some t | none=>if 256<T.length then fresh sRule 0 4 else none)∧checkP k R T=e0:=⟨_,rfl,rfl⟩
 replace he0:=Hd he0
 go_enter Tryz.func170,Tryz.ntmps170
 go_wp2_with fail
 refine (check_any r k R _ T _ hg.out h.out).mono ?_
 rintro e w1 ⟨x,rfl,b1,he⟩
 rw [he0.out] at he
 cases e0 with
 | some t =>
  simp only [] at hsm
  replace hsm:=Hd hsm
  obtain ⟨T1,a1,rfl⟩:=ErrIs.some_shape he
  replace he:=Hd he
  go_wp2
  go_ret
  exact ⟨_,rfl,Below.step b0 b1,by rw [hsm.out]; exact he.out⟩
 | none =>
  obtain rfl:=he.none_eq
  simp only [] at hsm
  clear he
  obtain ⟨⟨z0,z1,z2⟩,-,-,-⟩:=q.below b1
  by_cases hl:256<T.length
  ·rw [if_pos hl] at hsm
   replace hsm:=Hd hsm
   go_wp2_with fail
   refine (rule_wrong r _ _ _ (hg.out.below b1) (by decide) (by decide)).mono ?_
   rintro e w2 ⟨x,rfl,b2,he⟩
   go_wp2
   go_ret
   exact ⟨_,rfl,Below.step b0 (Below.step b1 b2),by rw [hsm.out]; exact he⟩
  ·rw [if_neg hl] at hsm
   replace hsm:=Hd hsm
   go_wp2
   go_ret
   exact ⟨_,rfl,Below.step b0 b1,by rw [hsm.out]; rfl⟩
theorem over_small (r:Nat→Addr) (k R:Int) (va:Option Addr) (vn vc:Nat) (T:List Int) (w:World) (hg:Glob r w) (h:IntsAt w (.slice va vn vc) T) :
 Calls Tryz.prog 299 #[.agg #[.int .i64 k,.int .i64 R,.slice va vn vc]] w (Ret1 (fun x w'=>ErrIs r w' (under sOverlap 0 (smallP k R T)) x) w):=by
 have b0:=belowAlloc w (.cells #[.int .i64 k,.int .i64 R,.slice va vn vc] 124)
 replace hg:=Hd (hg.below b0)
 replace h:=Hd (h.below b0)
 go_enter Tryz.func299,Tryz.ntmps299
 go_wp2_with fail
 refine (small_any r k R va vn vc T _ hg.out h.out).mono ?_
 rintro e w1 ⟨x,rfl,b1,he⟩
 go_wp2_with fail
 refine (under_any r _ 0 _ x _ he).mono ?_
 rintro e w2 ⟨y,rfl,b2,hy⟩
 go_wp2
 go_ret
 exact ⟨_,rfl,Below.step b0 (Below.step b1 b2),hy⟩
theorem over_nodes (K R:Nat) (va:Option Addr) (vn vc:Nat) (T:List Int) (w:World) (h:IntsAt w (.slice va vn vc) T) (h1:1≤K) (hT:T.length≤16384) :
 Calls Tryz.prog 209 #[.agg #[.int .i64 K,.int .i64 R,.slice va vn vc]] w fun e w'=>e=.returned (.int .i64 ((T.length/K:Nat):Int))∧w'=w.alloc (.cells #[.int .i64 K,.int .i64 R,.slice va vn vc] 124):=by
 have hK0:((K:Int)==0)=false:=by rw [beq_eq_false_iff_ne]; omega
 have hK1:¬ (K:Int)=0:=by omega
 have hK2:(0:Int)<K:=by omega
 have hK3:¬ K=0:=by omega
 have lT:=h.len
 have hq0:0≤(T.length:Int)/(K:Int):=Int.ediv_nonneg (by omega) (by omega)
 have hqc:(T.length:Int)/(K:Int)=((T.length/K:Nat):Int):=by simp
 have hqw:IntKind.i64.wrap ((T.length:Int)/(K:Int))=(T.length:Int)/(K:Int):=by
  have:T.length/K≤16384:=Nat.le_trans (Nat.div_le_self _ _) hT
  exact wrapK (by omega) (by rw [hqc]; omega)
 rw [← hqc]
 replace hqc:=Hd hqc
 go_enter Tryz.func209,Tryz.ntmps209
 go_wp2
 go_ret
 exact ⟨rfl,rfl⟩
set_option maxHeartbeats 8000000
theorem sum_take_succ {ns:List Nat} {i:Nat} (h:i<ns.length):(ns.take (i+1)).sum=(ns.take i).sum+ns.getD i 0:=by
 rw [show ns.take (i+1)=ns.take i++[ns.getD i 0] by rw [List.take_add_one]; simp [List.getD,h],List.sum_append]; simp
theorem sum_take_le {ns:List Nat} {M:Nat} (h:AllLe ns M):∀ i,(ns.take i).sum≤i*M
 | 0=>by simp
 | i+1=>by
  have ih:=sum_take_le h i
  by_cases c:i<ns.length
  ·rw [sum_take_succ c,Nat.add_mul]; have:=h i; omega
  ·rw [show ns.take (i+1)=ns.take i by rw [List.take_of_length_le (by omega),List.take_of_length_le (by omega)],Nat.add_mul]; omega
theorem nat_sumB (v:Value) (vs:List Value) (ns:List Nat) (w:World) (h:ValsAt w v vs) (hn:NumsIn w vs ns) (hle:AllLe ns (4 ^ eB)) (hb:∀ i,(ns.take i).sum≤4 ^ eB) (hl:ns.length≤1000000) :
 Calls Tryz.prog 217 #[v] w (Ret1 (fun x w'=>NumAt w' x ns.sum) w):=by
 obtain ⟨va,vc,rfl⟩:∃ a c,v=.slice a vs.length c:=by
  obtain ⟨a,c,e,-⟩:=h
  exact ⟨a,c,e⟩
 have hvl:=hn.len
 obtain ⟨N,hN⟩:∃ N,vs.length=N:=⟨_,rfl⟩
 replace hle:=Hd hle
 replace h:=Hd h
 replace hn:=Hd hn
 replace hb:=Hd hb
 rw [hN] at hvl ⊢
 have hN256:N≤1000000:=by omega
 have hall:(ns.take N).sum=ns.sum:=by rw [List.take_of_length_le (by omega)]
 replace hall:=Hd hall
 replace hvl:=Hd hvl
 replace hN:=Hd hN
 go_enter Tryz.func217,Tryz.ntmps217
 go_wp2
 go_loopw [3,8] (fun sv iv wr=>∃ (i:Nat) (sw:Value),sw=sv∧iv=.int .i64 i∧i≤N∧NumAt wr sw (ns.take i).sum∧Below w.heap.size w wr) (fun _ iv _=>N-(intOf iv).toNat)
 case atStart=>exact ⟨0,_,rfl,rfl,Nat.zero_le _,NumAt.nil _,Below.refl _ _⟩
 case round =>
  obtain ⟨i,sw,rfl,rfl,hi,hS,hB⟩:=hrel
  obtain ⟨wo,rfl⟩:∃ wo:World,wo=wr:=⟨_,rfl⟩
  obtain ⟨sa,sm,sc,rfl⟩:=hS.shape
  by_cases hil:i<N
  ·have di:decide ((i:Int)<(N:Int))=true:=decide_eq_true (by omega)
   have hv:=h.out.below hB
   have hnb:=hn.out.below hB
   have hk:i<vs.length:=by rw [hN.out]; exact hil
   have iX:=fun w'=>hv.idx oneNats i hk w'
   have cX:=hv.cell i hk
   have nX:=hnb.each i (by rw [← hvl.out]; exact hil)
   rw [getD_at hk] at nX
   obtain ⟨xv,hxv⟩:∃ x,vs[i]'hk=x:=⟨_,rfl⟩
   rw [hxv] at cX nX
   obtain ⟨xa,xn,xc,rfl⟩:=nX.shape
   obtain ⟨ad,had⟩:∃ a,valAt (.slice va N vc) i=a:=⟨_,rfl⟩
   rw [hN.out,had] at iX cX
   have hb1:=hb.out i
   have hle1:=hle.out i
   have hadd:=nat_addN (.slice sa sm sc) (.slice xa xn xc) _ _ wo hS nX hb1 hle1
   have hs:=sum_take_succ (ns:=ns) (i:=i) (by rw [← hvl.out]; exact hil)
   replace hadd:=Hd hadd
   replace hs:=Hd hs
   replace had:=Hd had
   replace hxv:=Hd hxv
   replace hv:=Hd hv
   replace hnb:=Hd hnb
   replace hS:=Hd hS
   replace nX:=Hd nX
   clear hb1 hle1
   go_wp2_with fail
   refine hadd.out.mono ?_
   rintro e w2 ⟨x,rfl,b2,hx⟩
   have hx2:=hx.num
   rw [← hs.out] at hx2
   replace hx2:=Hd hx2
   clear hx
   go_wp2
   go_roundw
   case measure=>simp [intOf]; omega
   case rel=>exact ⟨i+1,_,rfl,by go_num,by omega,hx2.out,Below.step hB b2⟩
  ·have di:decide ((i:Int)<(N:Int))=false:=decide_eq_false (by omega)
   obtain rfl:i=N:=by omega
   rw [hall.out] at hS
   replace hS:=Hd hS
   go_wp2
   go_ret
   exact ⟨_,rfl,hB,hS.out⟩
theorem nat_sum (v:Value) (vs:List Value) (ns:List Nat) (w:World) (h:ValsAt w v vs) (hn:NumsIn w vs ns) (hle:AllLe ns (4 ^ (eW+1))) (hl:ns.length≤256) :
 Calls Tryz.prog 217 #[v] w (Ret1 (fun x w'=>NumAt w' x ns.sum) w):=by
 have hM:∀ i,i≤256→i*4 ^ (eW+1)≤4 ^ eB:=fun i hi=>by
  have h1:i*4 ^ (eW+1)≤4 ^ 4*4 ^ (eW+1):=Nat.mul_le_mul_right _ (by omega)
  rw [← Nat.pow_add] at h1
  exact Nat.le_trans h1 (Nat.pow_le_pow_right (by decide) (by unfold eW eB; omega))
 refine nat_sumB v vs ns w h hn (fun i=>Nat.le_trans (hle i) (Nat.pow_le_pow_right (by decide) (by unfold eW eB; omega))) (fun i=>?_) (by omega)
 rcases Nat.le_total i 256 with hi | hi
 ·exact Nat.le_trans (sum_take_le hle i) (hM i hi)
 ·rw [List.take_of_length_le (by omega),← List.take_of_length_le (Nat.le_refl ns.length)]
  exact Nat.le_trans (sum_take_le hle _) (hM _ hl)
theorem count_fits (g h:Nat) (va:Option Addr) (vn vc:Nat) (T:List Int) (ua:Option Addr) (un uc:Nat) (ws:List Int) (w:World) (c2:w.cell? ⟨g,2,none⟩=some (.slice va vn vc)) (c0:w.cell? ⟨h,0,none⟩=some (.slice ua un uc)) (hT:IntsAt w (.slice va vn vc) T) (hW:IntsAt w (.slice ua un uc) ws) (p j:Nat) (hp:p<ws.length) (hj:j<T.length) :
 Calls Tryz.prog 296 #[.int .i64 p,.int .i64 j,.pointer (some ⟨g,0,none⟩),.pointer (some ⟨h,0,none⟩)] w (RetB (decide (T.getD j 0=ws.getD p 0)) w):=by
 have i1:=fun w'=>hT.idx j hj w'
 have x1:=hT.cellD j hj
 have i2:=fun w'=>hW.idx p hp w'
 have x2:=hW.cellD p hp
 obtain ⟨y1,h1⟩:∃ y,T.getD j 0=y:=⟨_,rfl⟩
 obtain ⟨y2,h2⟩:∃ y,ws.getD p 0=y:=⟨_,rfl⟩
 rw [h1] at x1 ⊢
 rw [h2] at x2 ⊢
 obtain ⟨a1,e1⟩:∃ a,valAt (.slice va vn vc) j=a:=⟨_,rfl⟩
 obtain ⟨a2,e2⟩:∃ a,valAt (.slice ua un uc) p=a:=⟨_,rfl⟩
 rw [e1] at i1 x1
 rw [e2] at i2 x2
 clear h1 h2 e1 e2 hT hW
 go_enter Tryz.func296,Tryz.ntmps296
 go_wp2
 go_quiet (fail)
 go_wp2
 go_ret
 exact ⟨_,rfl,rfl⟩
theorem eg_count_fits (args:Array Value) (w:World):(callFunc 296 args).run Tryz.prog w=.ok (.enter 296 args) w:=by kernel_rfl
theorem ones_set {N i:Nat} (h:i<N):(List.replicate i 1++List.replicate (N-i) 0).set i 1=List.replicate (i+1) 1++List.replicate (N-(i+1)) 0:=by
 obtain ⟨k,hk⟩:∃ k,N-i=k+1:=⟨N-i-1,by omega⟩
 rw [hk,show N-(i+1)=k by omega,List.set_append_right _ _ (by simp),List.length_replicate,Nat.sub_self,List.replicate_succ,List.set_cons_zero,List.replicate_succ',List.append_assoc]
 rfl
theorem ones_le (N:Nat):AllLe (List.replicate N 1) 1:=fun i=>by
 by_cases h:i<N<;>simp [List.getD,h]
theorem count_words (K R:Nat) (va:Option Addr) (vn vc:Nat) (T:List Int) (u:Value) (ws:List Int) (w:World) (h:IntsAt w (.slice va vn vc) T) (hu:IntsAt w u ws) (hr:RuleOk K R T) (hl:T.length≤256) (hws:ws.length≤256) :
 Calls Tryz.prog 196 #[.agg #[.int .i64 K,.int .i64 R,.slice va vn vc],u] w (Ret1 (fun x w'=>NumAt w' x (preN K R T ws)) w):=by
 obtain ⟨ua,uc,rfl⟩:∃ a c,u=.slice a ws.length c:=by
  obtain ⟨a,c,e,-⟩:=hu
  exact ⟨a,c,e⟩
 have b0:=Below.step (belowAlloc w (.cells #[.int .i64 K,.int .i64 R,.slice va vn vc] 124)) (belowAlloc _ (.cells #[.slice ua ws.length uc] 30))
 have q:Box3 ((w.alloc (.cells #[.int .i64 K,.int .i64 R,.slice va vn vc] 124)).alloc (.cells #[.slice ua ws.length uc] 30)) w.heap.size (.int .i64 K) (.int .i64 R) (.slice va vn vc):=by simp [Box3,go_sem]
 have q1:((w.alloc (.cells #[.int .i64 K,.int .i64 R,.slice va vn vc] 124)).alloc (.cells #[.slice ua ws.length uc] 30)).cell? ⟨w.heap.size+1,0,none⟩=some (.slice ua ws.length uc):=by simp [go_sem]
 have hk1:=hr.k1
 have hk4:=hr.k4
 obtain ⟨N,hN⟩:∃ N,pw K (2*R)=N:=⟨_,rfl⟩
 have hT:T.length=N*K:=by rw [hr.len,pw_succ,hN]
 have h1:1≤N:=by rw [← hN]; exact pw_pos (K:=K) (2*R) hk1
 have hN256:N≤256:=by
  have:=Nat.le_mul_of_pos_right N (show 0<K by omega)
  omega
 have hpre:preN K R T ws=(wayE K N T (List.replicate N 1) ws).sum:=by rw [wayE_one,preN_way hk1,hN]
 rw [hpre]
 have vt:vn=T.length:=by
  obtain ⟨a',c',e,_⟩:=h
  injection e with _ e
 subst vt
 obtain ⟨w0,hw0⟩:∃ W:World,(w.alloc (.cells #[.int .i64 K,.int .i64 R,.slice va T.length vc] 124)).alloc (.cells #[.slice ua ws.length uc] 30)=W:=⟨_,rfl⟩
 rw [hw0] at b0 q q1
 obtain ⟨g,hg⟩:∃ g,w.heap.size=g:=⟨_,rfl⟩
 rw [hg] at q q1
 have hdiv:T.length/K=N:=by rw [hT]; exact Nat.mul_div_cancel _ (by omega)
 replace h:=Hd (h.below b0)
 replace hu:=Hd (hu.below b0)
 have hq:((T.length:Nat):Int)/(K:Int)=(N:Int):=by rw [← hdiv]; rfl
 have hq2:((T.length:Nat):Int).tdiv (K:Int)=(N:Int):=by rw [Int.tdiv_eq_ediv_of_nonneg (Int.natCast_nonneg _),hq]
 have hK0:((K:Int)==0)=false:=by rw [beq_eq_false_iff_ne]; omega
 have hK2:¬ (K:Int)=0:=by omega
 have hK3:¬ K=0:=by omega
 replace hT:=Hd hT
 replace hdiv:=Hd hdiv
 replace hN:=Hd hN
 replace hpre:=Hd hpre
 replace hr:=Hd hr
 replace hw0:=Hd hw0
 obtain ⟨⟨z0,z1,z2⟩,-,-,-⟩:=id q
 go_enter Tryz.func196,Tryz.ntmps196
 go_upto_region 1 with fail
 rw [hw0.out]
 replace hg:=Hd hg
 go_wp2_with (at_make; refine wpl_makeV oneNats rfl _ _ rfl (N:Int) rfl rfl (by omega) (by omega) ?_)
 intro ev w1 ho1 g1'
 have b1:Below w0.heap.size w0 w1:=(Below.refl _ _).grown g1' (Nat.le_refl _) (by intro k hk; cases hk)
 obtain ⟨ea,en,ec,rfl⟩:=ho1.shape
 replace ho1:OwnV 129 w0.heap.size w1 (.slice ea en ec) (List.replicate N (.slice none 0 0)):=by simpa using ho1
 have een:en=N:=by
  obtain ⟨a',c',e,_⟩:=ho1.at
  injection e with _ e
  rw [e]; simp
 subst een
 replace ho1:=Hd ho1
 clear z0 z1 z2 g1'
 go_wp2_with fail
 go_loopw [16] (fun iv wr=>∃ (i:Nat) (evs:List Value),iv=.int .i64 i∧i≤en∧OwnV 129 w0.heap.size wr (.slice ea en ec) evs∧NumsIn wr evs (List.replicate i 1++List.replicate (en-i) 0)∧Below w0.heap.size w0 wr) (fun iv _=>en-(intOf iv).toNat)
 case atStart=>exact ⟨0,_,rfl,Nat.zero_le _,ho1.out,by simpa using NumsIn.zeros w1 en,b1⟩
 case round =>
  clear ho1 b1
  obtain ⟨i,evs,rfl,hi,hO,hS,hB⟩:=hrel
  obtain ⟨wo,rfl⟩:∃ wo:World,wo=wr:=⟨_,rfl⟩
  by_cases hil:i<en
  ·have di:decide ((i:Int)<(en:Int))=true:=decide_eq_true (by omega)
   have hel:evs.length=en:=by rw [hS.len]; simp; omega
   have hk:i<evs.length:=by rw [hel]; exact hil
   replace hO:=Hd hO
   replace hS:=Hd hS
   replace hel:=Hd hel
   go_wp2_with fail
   refine (nat_from 1 wo (by decide)).mono ?_
   rintro e w2 ⟨x,rfl,b2,hx⟩
   obtain ⟨xa,xn,xc,rfl⟩:=hx.num.shape
   have hO2:=hO.out.below b2
   have hS2:=hS.out.below b2
   have iX:=fun w'=>hO2.at.idx oneNats i hk w'
   have cX:=hO2.at.cell i hk
   have fX:=hO2.frz i hk
   have nX:=hS.out.each i (by simp; omega)
   rw [getD_at hk] at nX
   obtain ⟨ov,hov⟩:∃ o,evs[i]'hk=o:=⟨_,rfl⟩
   rw [hov] at cX nX
   obtain ⟨oa,on,oc,rfl⟩:=nX.shape
   have hO3:=hO2.set i hk (.slice xa xn xc)
   have hS3:=(hS2.set cX (by intro x h; cases h) (.slice xa xn xc)).upd i (hx.num.set cX (by intro x h; cases h) (.slice xa xn xc))
   have hB3:=(Below.step hB b2).setCell (hO2.blkB i hk).2 (.slice xa xn xc)
   rw [ones_set hil] at hS3
   obtain ⟨ad,had⟩:∃ a,valAt (.slice ea en ec) i=a:=⟨_,rfl⟩
   rw [had] at iX cX fX hO3 hS3 hB3
   replace hO2:=Hd hO2
   replace hS2:=Hd hS2
   replace hO3:=Hd hO3
   replace hS3:=Hd hS3
   replace hB3:=Hd hB3
   replace had:=Hd had
   replace hov:=Hd hov
   replace hx:=Hd hx
   replace nX:=Hd nX
   go_wp2
   go_roundw
   case measure=>simp [intOf]; omega
   case rel=>exact ⟨i+1,_,by go_num,by omega,hO3.out,hS3.out,hB3.out⟩
  ·have di:decide ((i:Int)<(en:Int))=false:=decide_eq_false (by omega)
   obtain rfl:i=en:=by omega
   rw [Nat.sub_self,List.replicate_zero,List.append_nil] at hS
   have hval:=hO.at
   have hTo:=h.out.below hB
   have hUo:=hu.out.below hB
   obtain ⟨⟨z0,z1,z2⟩,-,-,-⟩:=q.below hB
   have q1o:=cell_keep hB q1
   have hways:=count_ways (Fn:=296) K R i va T.length vc T (.slice ea i ec) evs (List.replicate i 1) ws (.pointer (some ⟨g,0,none⟩)) (.pointer (some ⟨g+1,0,none⟩)) wo hTo hval hS (by simp) hT.out h1 hk1 hk4 hl hws (ones_le i) eg_count_fits (fun W hb p j hp hj=>count_fits g (g+1) va T.length vc T ua ws.length uc ws W (cell_keep hb z2) (cell_keep hb q1o) (hTo.below hb) (hUo.below hb) p j hp hj)
   have hwl:=way_le (N:=i) (T:=T) hk1 (ones_le i) ws
   have hwlen:=wayE_len (K:=K) (T:=T) (ws:=ws) (e:=List.replicate i 1) (N:=i) (by simp)
   obtain ⟨A,hA⟩:∃ A,wayE K i T (List.replicate i 1) ws=A:=⟨_,rfl⟩
   rw [hA] at hways hwl hwlen
   replace hA:=Hd hA
   replace hways:=Hd hways
   replace hwl:=Hd hwl
   replace hO:=Hd hO
   replace hS:=Hd hS
   replace hval:=Hd hval
   replace hTo:=Hd hTo
   replace hUo:=Hd hUo
   go_wp2_with fail
   refine hways.out.mono ?_
   rintro e w3 ⟨x,rfl,b3,xs,hx1,hx2⟩
   have hsum:=nat_sum x xs A w3 hx1 hx2 (fun i=>Nat.le_trans (hwl.out i) (four_le hk4 (by unfold eW; omega))) (by rw [hwlen]; exact hN256)
   replace hsum:=Hd hsum
   replace hx1:=Hd hx1
   replace hx2:=Hd hx2
   clear z0 z1 z2 q1o
   go_wp2_with fail
   refine hsum.out.mono ?_
   rintro e w4 ⟨y,rfl,b4,hy⟩
   have bE:=Below.step b0 (Below.step hB (Below.step b3 b4))
   replace hy:=Hd hy
   go_wp2
   go_ret
   exact ⟨_,rfl,bE,by rw [hA.out]; exact hy.out⟩
def sCount:ByteArray:=⟨#[99,111,117,110,116]⟩
theorem count_wrong (r:Nat→Addr) (at_ n:Int) (w:World) (hg:Glob r w) (h1:1≤n) (h2:n≤11) :
 Calls Tryz.prog 197 #[.int .i64 at_,.int .i64 n] w (Ret1 (fun v w'=>ErrIs r w' (fresh sCount at_ n) v) w):=by
 go_enter Tryz.func197,Tryz.ntmps197
 go_wp2_with fail
 refine (new_any r _ at_ n w hg h1 h2).mono ?_
 rintro e w' ⟨v,rfl,hb,he⟩
 go_wp2
 go_ret
 exact ⟨_,rfl,hb,he⟩
theorem count_small (r:Nat→Addr) (k R:Int) (va:Option Addr) (vn vc:Nat) (T:List Int) (w:World) (hg:Glob r w) (h:IntsAt w (.slice va vn vc) T) :
 Calls Tryz.prog 194 #[.agg #[.int .i64 k,.int .i64 R,.slice va vn vc]] w (Ret1 (fun x w'=>ErrIs r w' (under sCount 0 (smallP k R T)) x) w):=by
 have b0:=belowAlloc w (.cells #[.int .i64 k,.int .i64 R,.slice va vn vc] 124)
 have q:Box3 (w.alloc (.cells #[.int .i64 k,.int .i64 R,.slice va vn vc] 124)) w.heap.size (.int .i64 k) (.int .i64 R) (.slice va vn vc):=by simp [Box3,go_sem]
 replace hg:=Hd (hg.below b0)
 replace h:=Hd (h.below b0)
 obtain ⟨⟨z0,z1,z2⟩,-,-,-⟩:=q
 go_enter Tryz.func194,Tryz.ntmps194
 go_wp2_with fail
 refine (small_any r k R va vn vc T _ hg.out h.out).mono ?_
 rintro e w1 ⟨x,rfl,b1,he⟩
 clear z0 z1 z2
 have hund:=under_any r sCount 0 (smallP k R T) _ w1 he
 replace he:=Hd he
 go_wp2_with fail
 refine hund.mono ?_
 rintro e w2 ⟨y,rfl,b2,hy⟩
 clear hund
 have bE:=Below.step b0 (Below.step b1 b2)
 replace hy:=Hd hy
 go_wp2
 go_ret
 exact ⟨_,rfl,bE,hy.out⟩
theorem count_odd (x k:Int) (b:Addr) (w:World) (hb:w.cell? b=some (.int .i64 k)) :
 Calls Tryz.prog 294 #[.int .i64 x,.pointer (some b)] w fun e w'=>e=.returned (.bool (odd1 k x))∧w=w':=by
 by_cases h:x<0
 ·have e:odd1 k x=true:=by simp [odd1,h]
  rw [e]
  go_enter Tryz.func294,Tryz.ntmps294
  go_wp2
  go_ret
  exact ⟨rfl,rfl⟩
 ·have e:odd1 k x=decide (k≤x):=by simp [odd1,h]
  rw [e]
  go_enter Tryz.func294,Tryz.ntmps294
  go_wp2
  go_ret
  exact ⟨ret_bool (by simp),rfl⟩
theorem eg_count_odd (args:Array Value) (w:World):(callFunc 294 args).run Tryz.prog w=.ok (.enter 294 args) w:=by kernel_rfl
def symP (k:Int) (ws:List Int) (m:Nat):PErr:=if m<ws.length then fresh sCount 1 4 else if 0≤idxOf (odd1 k) ws then fresh sCount (idxOf (odd1 k) ws) 2 else none
theorem count_symbols (r:Nat→Addr) (k:Int) (u:Value) (ws:List Int) (m:Nat) (w:World) (hg:Glob r w) (hu:IntsAt w u ws) :
 Calls Tryz.prog 195 #[.int .i64 k,u,.int .i64 m] w (Ret1 (fun x w'=>ErrIs r w' (symP k ws m) x) w):=by
 obtain ⟨ua,uc,rfl⟩:∃ a c,u=.slice a ws.length c:=by
  obtain ⟨a,c,e,-⟩:=hu
  exact ⟨a,c,e⟩
 have b0:=belowAlloc w (.cells #[.int .i64 k] 3)
 have z0:(w.alloc (.cells #[.int .i64 k] 3)).cell? ⟨w.heap.size,0,none⟩=some (.int .i64 k):=by simp [go_sem]
 have hi:=indexFunc_any (.slice ua ws.length uc) (.pointer (some ⟨w.heap.size,0,none⟩)) 294 ws (odd1 k) _ (hu.below b0) eg_count_odd (fun x _=>count_odd x k ⟨w.heap.size,0,none⟩ _ z0)
 have hlt:=idxOf_cases (odd1 k) ws
 have hSP:symP k ws m=if m<ws.length then fresh sCount 1 4 else if 0≤idxOf (odd1 k) ws then fresh sCount (idxOf (odd1 k) ws) 2 else none:=rfl
 rw [hSP]
 obtain ⟨x,hx⟩:∃ x,idxOf (odd1 k) ws=x:=⟨_,rfl⟩
 rw [hx] at hi ⊢
 replace hg:=Hd (hg.below b0)
 replace hi:=Hd hi
 replace hu:=Hd hu
 replace hx:=Hd hx
 obtain ⟨L,hL⟩:∃ L,ws.length=L:=⟨_,rfl⟩
 rw [hL] at hi ⊢
 replace hL:=Hd hL
 clear hSP hlt
 by_cases h1:m<L
 ·rw [if_pos h1]
  have d1:decide ((L:Int)>(m:Int))=true:=decide_eq_true (by omega)
  go_enter Tryz.func195,Tryz.ntmps195
  go_wp2_with fail
  refine (count_wrong r 1 4 _ hg.out (by decide) (by decide)).mono ?_
  rintro e w1 ⟨y,rfl,b1,hy⟩
  have bE:=Below.step b0 b1
  replace hy:=Hd hy
  go_wp2
  go_ret
  exact ⟨_,rfl,bE,hy.out⟩
 ·rw [if_neg h1]
  have d1:decide ((L:Int)>(m:Int))=false:=decide_eq_false (by omega)
  by_cases h2:0≤x
  ·rw [if_pos h2]
   have d2:decide (x≥0)=true:=decide_eq_true h2
   go_enter Tryz.func195,Tryz.ntmps195
   go_wp2_with fail
   refine hi.out.mono ?_
   rintro e w1 ⟨rfl,rfl⟩
   go_wp2_with fail
   refine (count_wrong r x 2 _ hg.out (by decide) (by decide)).mono ?_
   rintro e w1 ⟨y,rfl,b1,hy⟩
   have bE:=Below.step b0 b1
   replace hy:=Hd hy
   go_wp2
   go_ret
   exact ⟨_,rfl,bE,hy.out⟩
  ·rw [if_neg h2]
   have d2:decide (x≥0)=false:=decide_eq_false h2
   go_enter Tryz.func195,Tryz.ntmps195
   go_wp2_with fail
   refine hi.out.mono ?_
   rintro e w1 ⟨rfl,rfl⟩
   go_wp2
   go_ret
   exact ⟨_,rfl,b0,rfl⟩
theorem count_Words_any (r:Nat→Addr) (K R:Nat) (va:Option Addr) (vn vc:Nat) (T:List Int) (u:Value) (ws:List Int) (w:World) (hg:Glob r w) (h:IntsAt w (.slice va vn vc) T) (hu:IntsAt w u ws) (hr:RuleOk K R T) (hl:T.length≤256) :
 Calls Tryz.prog 101 #[.agg #[.int .i64 K,.int .i64 R,.slice va vn vc],u] w (Ret2 (fun x y w'=>ErrIs r w' (symP K ws 256) y∧(symP K ws 256=none→NumAt w' x (preN K R T ws))∧(symP K ws 256≠none→x=.slice none 0 0)) w):=by
 obtain ⟨ua,un,uc,rfl⟩:=hu.shape
 have b0:=belowAlloc w (.cells #[.int .i64 K,.int .i64 R,.slice va vn vc] 124)
 have q:Box3 (w.alloc (.cells #[.int .i64 K,.int .i64 R,.slice va vn vc] 124)) w.heap.size (.int .i64 K) (.int .i64 R) (.slice va vn vc):=by simp [Box3,go_sem]
 have hs:=count_small r K R va vn vc T _ (hg.below b0) (h.below b0)
 rw [show smallP K R T=none by rw [smallP_ok hr,if_neg (by omega)]] at hs
 replace hs:=Hd hs
 replace hg:=Hd (hg.below b0)
 replace h:=Hd (h.below b0)
 replace hu:=Hd (hu.below b0)
 replace hr:=Hd hr
 obtain ⟨⟨z0,z1,z2⟩,-,-,-⟩:=id q
 go_enter Tryz.func101,Tryz.ntmps101
 go_wp2_with fail
 refine hs.out.mono ?_
 rintro e w1 ⟨x,rfl,b1,he⟩
 obtain rfl:=he.none_eq
 clear z0 z1 z2 hs he
 obtain ⟨⟨z0,z1,z2⟩,-,-,-⟩:=q.below b1
 have c1:=b1
 go_wp2_with fail
 refine (count_symbols r K (.slice ua un uc) ws 256 w1 (hg.out.below b1) (hu.out.below b1)).mono ?_
 rintro e w2 ⟨y,rfl,b2,hy⟩
 have c2:=Below.step c1 b2
 clear z0 z1 z2
 obtain ⟨⟨z0,z1,z2⟩,-,-,-⟩:=q.below c2
 cases hsy:symP K ws 256 with
 | some t =>
  rw [hsy] at hy
  obtain ⟨T1,p1,rfl⟩:=hy.some_shape
  have bE:=Below.step b0 c2
  replace hy:=Hd hy
  replace hsy:=Hd hsy
  go_wp2
  go_ret2
  exact ⟨_,_,rfl,bE,by rw [hsy.out]; exact hy.out,(fun q=>by rw [hsy.out] at q; cases q),fun _=>rfl⟩
 | none =>
  rw [hsy] at hy
  obtain rfl:=hy.none_eq
  have hwl:ws.length≤256:=by
   unfold symP at hsy
   apply Classical.byContradiction
   intro hn
   rw [if_pos (by omega)] at hsy
   unfold fresh at hsy
   cases hsy
  replace hsy:=Hd hsy
  clear hy
  go_wp2_with fail
  refine (count_words K R va vn vc T (.slice ua un uc) ws w2 (h.out.below c2) (hu.out.below c2) hr.out hl hwl).mono ?_
  rintro e w3 ⟨x,rfl,b3,hx⟩
  have bE:=Below.step b0 (Below.step c2 b3)
  replace hx:=Hd hx
  clear z0 z1 z2
  go_wp2
  go_ret2
  exact ⟨_,_,rfl,bE,by rw [hsy.out]; rfl,(fun _=>hx.out),fun q=>absurd hsy.out q⟩
end Go.Proofs.YtindfaehjoileaaGreatDoor
namespace Go.Proofs.YtindfaehjoileaaGreatDoor
open Go.RowKit
set_option maxRecDepth 100000
theorem run_appI {w:World} (B:Nat) (ty:TypeId) (v u:Value) (xs ys:List Int) (hown:OwnI B w v xs) (hu:IntsAt w u ys) (hlen:xs.length+ys.length≤17592186044416) (hB:B≤w.heap.size) :
 ∃ v' w',(Builtin.append_ #[30,30] ty #[v,u]).run Tryz.prog w=.ok v' w'∧OwnI B w' v' (xs++ys)∧Below B w w'∧w.grownBy w' v.ownBlock∧(v'.ownBlock=v.ownBlock∨v'.ownBlock=some w.heap.size):=by
 obtain ⟨i,hi,hz0,hz1,hz2⟩:=info_parts iInt
 obtain ⟨ao,cap,rfl,h1,h2,h3,h4⟩:=hu
 cases ao with
 | none =>
  obtain rfl:=h3 rfl
  have hy:ys=[]:=List.length_eq_zero_iff.1 (by omega)
  subst hy
  have hrun:=run_append_owned_none (P:=Tryz.prog) w B 30 ty 3 i 1 uInts hi v xs.length _ hown
  exact ⟨_,_,hrun,by simpa using hown,Below.refl _ _,World.grownBy.refl _ _,.inl rfl⟩
 | some p =>
  obtain ⟨v',w',hr,ho',hgr,_,hat⟩:=run_append_own_at (P:=Tryz.prog) w B 30 ty 3 i (.int .i64 0) 1 8 uInts hi hz0 hz1 hz2 rfl (by decide) v xs.length _ hown p ys.length cap (ys.map (.int .i64)) (by simp) (fun j u hj=>by
   have hjl:j<ys.length:=by have:=(List.getElem?_eq_some_iff.1 hj).1; simpa using this
   have:=h4 j hjl
   simp only [valAt] at this
   rw [this,← hj]; simp [hjl]) (ints_oneCell _ _) (by unfold maxLen; omega) (by omega) hB
  exact ⟨v',w',hr,by simpa [OwnI] using ho',(Below.refl _ _).grown hgr hB (fun k hk=>(hown.lt k hk).1),hgr,hat⟩
theorem step_appI {ops:Array Oper} {o:Oper} {a:Act} {w:World} {K:Act→World→Prop} {Q:Exit→Act→World→Prop} {Ep:Prop} (hgd:o.guard=none) (s x:Operand)
 (ho:o.op=.call { callee:=.builtin .append,args:=#[s,x],argTypes:=#[30,30] })
 (B:Nat) (v u:Value) (xs ys:List Int) (hs:a.eval s=v) (hx:a.eval x=u) (hown:OwnI B w v xs) (hu:IntsAt w u ys)
 (hlen:xs.length+ys.length≤17592186044416) (hB:B≤w.heap.size)
 (h:∀ v' w',OwnI B w' v' (xs++ys)→Below B w w'→K (a.put o.dst v') w') :
 if Region.wanted o (yielded ops a.tmps)=true then Oper.wp Tryz.prog o a w K Q else Ep:=by
 have hw:Region.wanted o (yielded ops a.tmps)=true:=by simp [Region.wanted,hgd]
 rw [if_pos hw]
 obtain ⟨v',w',hr,h2,h3,_,_⟩:=run_appI B o.type v u xs ys hown hu hlen hB
 unfold Oper.wp
 simp [execOp,ho,resolve,invoke,builtin,hs,hx,hr,Result.andThen]
 exact h v' w' h2 h3
def ecaT (n:Nat):List Int:=(List.range 8).map fun i=>(((n >>> i) &&& 1:Nat):Int)
end Go.Proofs.YtindfaehjoileaaGreatDoor
namespace Go.Proofs.YtindfaehjoileaaGreatDoor
def FillOk (K R:Nat) (T:List Int) (n front image:Nat):Prop:=front<T.length/K∧image<pw K (n-2*R)
theorem FillOk.zero {K R:Nat} {T:List Int} (hr:RuleOk K R T):FillOk K R T 0 0 0 :=
 ⟨by rw [hr.len,pw_succ,Nat.mul_div_cancel _ (by have:=hr.k1; omega)]; exact pw_pos _ hr.k1,by rw [Nat.zero_sub]; exact pw_pos _ hr.k1⟩
theorem FillOk.window {K R:Nat} {T:List Int} {n front image s:Nat} (hr:RuleOk K R T) (h:FillOk K R T n front image) (hs:s<K):front*K+s<T.length:=by
 have hD:T.length=T.length/K*K:=by
  rw [hr.len,pw_succ,Nat.mul_div_cancel _ (by have:=hr.k1; omega)]
 have h1:(front+1)*K≤T.length/K*K:=Nat.mul_le_mul_right _ h.1
 rw [Nat.add_mul] at h1
 omega
theorem FillOk.step {K R:Nat} {T:List Int} {n front image s:Nat} (hr:RuleOk K R T) (h:FillOk K R T n front image) (hs:s<K) :
 FillOk K R T (n+1) ((front*K+s)%(T.length/K)) (if 2*R≤n then image*K+(T.getD (front*K+s) 0).toNat else image):=by
 refine ⟨Nat.mod_lt _ (by have:=h.1; omega),?_⟩
 split
 ·rename_i hn
  have hw:=h.window hr hs
  have e:T.getD (front*K+s) 0=T[front*K+s]:=by simp [List.getD,hw]
  have h1:=hr.syms _ (List.getElem_mem hw)
  rw [e,show n+1-2*R=(n-2*R)+1 by omega,pw_succ]
  have h2:(image+1)*K≤pw K (n-2*R)*K:=Nat.mul_le_mul_right _ h.2
  rw [Nat.add_mul] at h2
  omega
 ·rename_i hn
  have h2:=h.2
  rw [show n-2*R=0 by omega] at h2
  rw [show n+1-2*R=0 by omega]
  exact h2
theorem tab_ext {a b:List Int} (hl:a.length=b.length) (h:∀ t,t<a.length→a.getD t 0=b.getD t 0):a=b :=
 List.ext_getElem hl fun t h1 h2=>by have:=h t h1; simpa [List.getD,h1,h2] using this
theorem wideT_get {K R d:Nat} {T:List Int} {i:Nat} (h:i<pw K (2*(R+d)+1)):(wideT K R d T).getD i 0=T.getD (numW K (((digs K (2*(R+d)+1) i).drop d).take (2*R+1))) 0:=by
 simp [wideT,List.getD,h]
theorem wideT_zero {K R:Nat} {T:List Int} (h:RuleOk K R T):wideT K R 0 T=T:=by
 refine tab_ext (by rw [wideT_length,h.len]; rfl) fun t ht=>?_
 rw [wideT_length] at ht
 rw [wideT_get ht,List.drop_zero,Nat.add_zero,List.take_of_length_le (by rw [digs_length]; omega),numW_digs h.k1 _ _ (by simpa using ht)]
theorem wideT_wideT {K Q e d:Nat} {N:List Int} (hK:1≤K):wideT K (Q+e) d (wideT K Q e N)=wideT K Q (e+d) N:=by
 refine tab_ext (by rw [wideT_length,wideT_length,Nat.add_assoc]) fun t ht=>?_
 rw [wideT_length] at ht
 rw [wideT_get ht,wideT_at hK _ (syms_take (syms_drop (digs_syms hK _ _) _) _) (by rw [List.length_take,List.length_drop,digs_length]; omega),wideT_get (by rw [← Nat.add_assoc]; exact ht)]
 congr 2
 rw [List.drop_take,List.take_take,List.drop_drop,Nat.min_eq_left (by omega),Nat.add_comm d e,Nat.add_assoc]
def narrT (K Q:Nat) (T:List Int):List Int:=(List.range (pw K (2*Q+1))).map fun i=>T.getD (numW K ([0]++digs K (2*Q+1) i++[0])) 0
theorem narrT_length (K Q:Nat) (T:List Int):(narrT K Q T).length=pw K (2*Q+1):=by simp [narrT]
theorem narrT_wide {K Q:Nat} {N:List Int} (h:RuleOk K Q N):narrT K Q (wideT K Q 1 N)=N:=by
 have hK:=h.k1
 refine tab_ext (by rw [narrT_length,h.len]) fun t ht=>?_
 rw [narrT_length] at ht
 have hs:Syms K ([0]++digs K (2*Q+1) t++[0]):=by
  intro y hy
  rcases List.mem_append.1 hy with hy | hy
  ·rcases List.mem_append.1 hy with hy | hy
   ·rw [List.mem_singleton] at hy; subst hy; omega
   ·exact digs_syms hK _ _ y hy
  ·rw [List.mem_singleton] at hy; subst hy; omega
 have:(narrT K Q (wideT K Q 1 N)).getD t 0=(wideT K Q 1 N).getD (numW K ([0]++digs K (2*Q+1) t++[0])) 0:=by simp [narrT,List.getD,ht]
 rw [this,wideT_at hK _ hs (by simp [digs_length]; omega)]
 have e:(([0]++digs K (2*Q+1) t++[0]:List Int).drop 1).take (2*Q+1)=digs K (2*Q+1) t:=by
  rw [List.append_assoc,List.drop_left' (by rfl),List.take_left' (digs_length ..)]
 rw [e,numW_digs hK _ _ ht]
def Least (K R:Nat) (T:List Int):Prop:=∀ Q N,R=Q+1→RuleOk K Q N→T≠wideT K Q 1 N
def NarrIs (K R:Nat) (T:List Int) (Q:Nat) (N:List Int):Prop:=RuleOk K Q N∧Least K Q N∧∃ d,R=Q+d∧T=wideT K Q d N
theorem wideT_inj {K Q d:Nat} {N M:List Int} (h:RuleOk K Q N) (k:RuleOk K Q M) (e:wideT K Q d N=wideT K Q d M):N=M:=by
 induction d with
 | zero=>rwa [wideT_zero h,wideT_zero k] at e
 | succ d ih =>
  by_cases hd:Q+d≤3
  ·apply ih
   rw [← wideT_wideT h.k1,← wideT_wideT h.k1] at e
   rw [← narrT_wide (wideT_ok h hd),e,narrT_wide (wideT_ok k hd)]
  ·have h1:=h.k1
   refine tab_ext (by rw [h.len,k.len]) fun t ht=>?_
   rw [h.len] at ht
   have hs:Syms K (List.replicate (d+1) 0++digs K (2*Q+1) t++List.replicate (d+1) 0):=by
    intro y hy
    rcases List.mem_append.1 hy with hy | hy
    ·rcases List.mem_append.1 hy with hy | hy
     ·rw [List.eq_of_mem_replicate hy]; omega
     ·exact digs_syms h1 _ _ y hy
    ·rw [List.eq_of_mem_replicate hy]; omega
   have hc:((List.replicate (d+1) 0++digs K (2*Q+1) t++List.replicate (d+1) 0:List Int).drop (d+1)).take (2*Q+1)=digs K (2*Q+1) t:=by
    rw [List.append_assoc,List.drop_left' (by simp),List.take_left' (digs_length ..)]
   have a:=wideT_at (R:=Q) (d:=d+1) (T:=N) h1 _ hs (by simp [digs_length]; omega)
   have b:=wideT_at (R:=Q) (d:=d+1) (T:=M) h1 _ hs (by simp [digs_length]; omega)
   rw [hc,numW_digs h1 _ _ ht] at a b
   rw [← a,← b,e]
theorem NarrIs.unique {K R Q P:Nat} {T N M:List Int} (h:NarrIs K R T Q N) (k:NarrIs K R T P M):Q=P∧N=M:=by
 obtain ⟨h1,h2,d,rfl,e⟩:=h
 obtain ⟨k1,k2,c,hc,e'⟩:=k
 have hK:=h1.k1
 have key:∀ {Q P:Nat} {N M:List Int} {d c:Nat},RuleOk K Q N→RuleOk K P M→Least K P M→Q+d=P+c→P≤3→wideT K Q d N=wideT K P c M→¬ Q<P:=by
  intro Q P N M d c hN hM hl hdc hP he hlt
  obtain ⟨j,rfl⟩:∃ j,P=Q+j+1:=⟨P-Q-1,by omega⟩
  obtain rfl:d=(j+1)+c:=by omega
  rw [← wideT_wideT hN.k1] at he
  have hw:wideT K Q (j+1) N=M:=wideT_inj (Q:=Q+(j+1)) (wideT_ok hN (by omega)) hM he
  refine hl (Q+j) (wideT K Q j N) rfl (wideT_ok hN (by omega)) ?_
  rw [wideT_wideT hN.k1,hw]
 have hr:=h1.r3
 have hr':=k1.r3
 have n1:=key h1 k1 k2 hc hr' (e.symm.trans e')
 have n2:=key k1 h1 h2 hc.symm hr (e'.symm.trans e)
 obtain rfl:Q=P:=by omega
 obtain rfl:d=c:=by omega
 exact ⟨rfl,wideT_inj h1 k1 (e.symm.trans e')⟩
def behB (K N:Nat) (T:List Int) (l:List Bool) (s:Int):List Bool :=
 (List.range N).map fun v=>(List.range N).any fun u=>l.getD u false&&(List.range K).any fun c=>decide ((u*K+c)%N=v)&&decide (T.getD (u*K+c) 0=s)
theorem behB_len (K N:Nat) (T:List Int) (l:List Bool) (s:Int):(behB K N T l s).length=N:=by simp [behB]
theorem behB_iff {K N:Nat} {T:List Int} {l:List Bool} {s:Int} {v:Nat} (hv:v<N) :
 (behB K N T l s).getD v false=true↔∃ u,u<N∧l.getD u false=true∧∃ c,c<K∧(u*K+c)%N=v∧T.getD (u*K+c) 0=s:=by
 have e:(behB K N T l s).getD v false=(List.range N).any fun u=>l.getD u false&&(List.range K).any fun c=>decide ((u*K+c)%N=v)&&decide (T.getD (u*K+c) 0=s):=by
  unfold behB; simp [List.getD,hv]
 rw [e,List.any_eq_true]
 constructor
 ·rintro ⟨u,hu,h⟩
  rw [Bool.and_eq_true,List.any_eq_true] at h
  obtain ⟨h1,c,hc,h2⟩:=h
  rw [Bool.and_eq_true,decide_eq_true_iff,decide_eq_true_iff] at h2
  exact ⟨u,List.mem_range.1 hu,h1,c,List.mem_range.1 hc,h2.1,h2.2⟩
 ·rintro ⟨u,hu,h1,c,hc,h2,h3⟩
  refine ⟨u,List.mem_range.2 hu,?_⟩
  rw [Bool.and_eq_true,List.any_eq_true]
  refine ⟨h1,c,List.mem_range.2 hc,?_⟩
  rw [Bool.and_eq_true,decide_eq_true_iff,decide_eq_true_iff]
  exact ⟨h2,h3⟩
def reachB (K N:Nat) (T:List Int) (y:List Int):List Bool:=y.foldl (behB K N T) (List.replicate N true)
theorem snoc_indI {P:List Int→Prop} (h0:P []) (h1:∀ y s,P y→P (y++[s])) (y:List Int):P y:=by
 generalize hn:y.length=n
 induction n generalizing y with
 | zero=>rw [List.eq_nil_of_length_eq_zero hn]; exact h0
 | succ n ih =>
  have hne:y≠[]:=by intro e; subst e; simp at hn
  obtain ⟨b,x,rfl⟩:∃ b x,y=b++[x]:=⟨y.dropLast,y.getLast hne,(List.dropLast_concat_getLast hne).symm⟩
  exact h1 _ _ (ih b (by simpa using hn))
theorem syms_snocI {K:Int} {y:List Int} {s:Int}:Syms K (y++[s])↔Syms K y∧0≤s∧s<K :=
 ⟨fun h=>⟨fun x hx=>h x (by simp [hx]),h s (by simp)⟩,fun h x hx=>by
   rcases List.mem_append.1 hx with hx | hx
   ·exact h.1 x hx
   ·simp at hx; subst hx; exact h.2⟩
theorem any_iff {l:List Bool} {N:Nat} (hl:l.length=N):l.any id=true↔∃ v,v<N∧l.getD v false=true:=by
 subst hl
 rw [List.any_eq_true]
 constructor
 ·rintro ⟨b,hb,h⟩
  obtain ⟨i,hi,rfl⟩:=List.getElem_of_mem hb
  exact ⟨i,hi,by simpa [List.getD,hi] using h⟩
 ·rintro ⟨v,hv,h⟩
  exact ⟨l[v],List.getElem_mem hv,by simpa [List.getD,hv] using h⟩
def HasPre (K R:Nat) (T:List Int) (y:List Int):Prop:=∃ x,Syms K x∧x.length=y.length+2*R∧imgP K R T x=y
inductive SubR where
 | on (sets:List (List Bool)) (words:List (List Int))
 | orphan (w:List Int)
 | big
def subStep (K N:Nat) (T:List Int) (i t:Nat) (sets:List (List Bool)) (words:List (List Int)):SubR :=
 if (behB K N T (sets.getD i []) t).any id=false then .orphan (words.getD i []++[(t:Int)])
 else if behB K N T (sets.getD i []) t∈sets then .on sets words
 else if sets.length=4096 then .big
 else .on (sets++[behB K N T (sets.getD i []) t]) (words++[words.getD i []++[(t:Int)]])
def subRow (K N:Nat) (T:List Int) (i:Nat):Nat→Nat→List (List Bool)→List (List Int)→SubR
 | 0,_,sets,words=>.on sets words
 | m+1,t,sets,words=>match subStep K N T i t sets words with
  | .on a b=>subRow K N T i m (t+1) a b
  | r=>r
def subGo (K N:Nat) (T:List Int):Nat→Nat→List (List Bool)→List (List Int)→SubR
 | 0,_,sets,words=>.on sets words
 | f+1,i,sets,words=>if i<sets.length then match subRow K N T i K 0 sets words with
  | .on a b=>subGo K N T f (i+1) a b
  | r=>r
  else .on sets words
def subR (K N:Nat) (T:List Int):SubR:=subGo K N T 4097 0 [List.replicate N true] [[]]
structure SubInv (K N:Nat) (T:List Int) (i:Nat) (sets:List (List Bool)) (words:List (List Int)):Prop where
 ll:words.length=sets.length
 z0:0<sets.length
 z1:sets.getD 0 []=List.replicate N true
 z2:words.getD 0 []=[]
 eq:∀ j,j<sets.length→sets.getD j []=reachB K N T (words.getD j [])
 sy:∀ j,j<sets.length→Syms K (words.getD j [])
 ne:∀ j,j<sets.length→(sets.getD j []).any id=true
 mono:∀ j k,j≤k→k<sets.length→(words.getD j []).length≤(words.getD k []).length
 close:∀ j,j<i→∀ s,s<K→∃ k,k<sets.length∧sets.getD k []=behB K N T (sets.getD j []) (s:Nat)∧(words.getD k []).length≤(words.getD j []).length+1
 small:sets.length≤4096
structure SubMid (K N:Nat) (T:List Int) (i t:Nat) (sets:List (List Bool)) (words:List (List Int)):Prop extends SubInv K N T i sets words where
 il:i<sets.length
 top:∀ k,k<sets.length→(words.getD k []).length≤(words.getD i []).length+1
 part:∀ s,s<t→∃ k,k<sets.length∧sets.getD k []=behB K N T (sets.getD i []) (s:Nat)∧(words.getD k []).length≤(words.getD i []).length+1
theorem getD_leftS {α:Type} {l m:List α} {j:Nat} {d:α} (h:j<l.length):(l++m).getD j d=l.getD j d:=by
 simp [List.getD,List.getElem?_append_left h]
theorem getD_end {α:Type} {l:List α} {x d:α}:(l++[x]).getD l.length d=x:=by simp [List.getD]
theorem SubInv.mid {K N i:Nat} {T:List Int} {sets:List (List Bool)} {words:List (List Int)} (h:SubInv K N T i sets words) (hi:i<sets.length) (ht:∀ k,k<sets.length→(words.getD k []).length≤(words.getD i []).length+1):SubMid K N T i 0 sets words :=
 ⟨h,hi,ht,fun _ hs=>absurd hs (Nat.not_lt_zero _)⟩
def OrphanLen (K R:Nat) (T:List Int) (n:Nat):Prop:=(∃ w,Syms K w∧w.length=n∧¬ HasPre K R T w)∧∀ y,Syms K y→y.length<n→HasPre K R T y
theorem OrphanLen.unique {K R:Nat} {T:List Int} {n m:Nat} (h:OrphanLen K R T n) (k:OrphanLen K R T m):n=m:=by
 obtain ⟨⟨w,sw,lw,hw⟩,h2⟩:=h
 obtain ⟨⟨v,sv,lv,hv⟩,k2⟩:=k
 rcases Nat.lt_trichotomy n m with q | q | q
 ·exact absurd (k2 w sw (by omega)) hw
 ·exact q
 ·exact absurd (h2 v sv (by omega)) hv
open Go.RowKit
set_option maxRecDepth 100000
theorem oneBytes:OneCell 34 5 (.int .u8 0) 1:=⟨by kernel_rfl,by kernel_rfl,rfl,by decide,fun _=>by kernel_rfl⟩
theorem uByte:Tryz.prog.underlying 5=some (.int .u8):=by kernel_rfl
theorem uStr:Tryz.prog.underlying 9=some .string:=by kernel_rfl
def dig8 (xs:List Int):List Int:=xs.map fun x=>48+x
def txtW (xs:List Int):ByteArray:=strOfNums (dig8 xs)
def byteV (xs:List Int):List Value:=(dig8 xs).map (Value.int .u8)
theorem wpl_makeV0 {T E:TypeId} {z:Value} {b:Nat} (oc:OneCell T E z b) {w:World} {ops:Array Oper} {rest:List Oper} {o:Oper} {a:Act} {Q:Exit→Act→World→Prop}
 (hg:o.guard=none) (l c:Operand) (hop:o.op=Op.makeSlice T l c) (n:Nat) (hl:a.eval l=.int .i64 0) (hc:a.eval c=.int .i64 (n:Int)) (hC:n≤100000)
 (hK:∀ v w',OwnV E w.heap.size w' v []→Below w.heap.size w w'→wpList Tryz.prog ops Q rest (a.put o.dst v) w') :
 wpList Tryz.prog ops Q (o::rest) a w:=by
 obtain ⟨i,hi,hz0,hz1,hz2⟩:=info_parts oc.hi
 have hb:=oc.hb
 refine wpList_make_own w hg l c T hop w.heap.size E i z 1 oc.ht hi hz0 hz1 .i64 .i64 n n hl hc rfl (by
  rw [hz2]
  calc b*n≤32*100000:=Nat.mul_le_mul hb hC
   _≤_:=by decide) (by unfold maxLen; omega) (Nat.le_refl _) ?_
 intro w' hown hgrow
 exact hK _ _ hown ((Below.refl _ _).grown hgrow (Nat.le_refl _) (by intro k hk; cases hk))
theorem wpl_appV {T E:TypeId} {z:Value} {b:Nat} (oc:OneCell T E z b) {w:World} {ops:Array Oper} {rest:List Oper} {o:Oper} {a:Act} {Q:Exit→Act→World→Prop} (hgd:o.guard=none) (s x:Operand)
 (ho:o.op=.call { callee:=.builtin .append,args:=#[s,x],argTypes:=#[T,T] })
 (B:Nat) (v:Value) (xs:List Value) (y:Value) (hy:y.oneCell'=true) (hown:OwnV E B w v xs) (hs:a.eval s=v) (hx:a.eval x=.slice (some ⟨w.heap.size,0,none⟩) 1 1)
 (hlen:xs.length<4398046511104) (hB:B≤w.heap.size)
 (h:∀ v' w',OwnV E B w' v' (xs++[y])→Below B w w'→wpList Tryz.prog ops Q rest (a.put o.dst v') w') :
 wpList Tryz.prog ops Q (o::rest) a (w.alloc (.cells #[y] E)):=by
 refine wpList_plain hgd fun K hK=>?_
 obtain ⟨v',w',hr,h2,h3⟩:=run_app oc (w.alloc (.cells #[y] E)) B o.type v _ (hown.alloc _) ⟨w.heap.size,0,none⟩ 1 [y] (by simp) (cell_one_new _ _ _) (by simp [hy]) (by simp; omega) (by simp; omega)
 unfold Oper.wp execOp
 simp only [ho,resolve,invoke,builtin,Sem.run_bind,Sem.run_pure,Result.andThen_ok,List.map_toArray,List.map_cons,List.map_nil,hs,hx]
 rw [show ([y]:List Value).length=1 from rfl] at hr
 rw [hr]
 have hal:∀ row,w.grownBy (w.alloc (.cells #[y] E)) row:=fun row=>World.grownBy_alloc w _ row
 rcases h3 with ⟨_,hg⟩ | ⟨_,hg⟩
 ·exact hK _ _ (h v' w' h2 ((Below.refl _ _).grown ((hal v.ownBlock).trans hg) hB (fun k hk=>(hown.lt k hk).1)))
 ·exact hK _ _ (h v' w' h2 ((Below.refl _ _).grown ((hal none).trans hg) hB (by intro k hk; cases hk)))
theorem byteV_snoc (xs:List Int) (x:Int):byteV (xs++[x])=byteV xs++[.int .u8 (48+x)]:=by simp [byteV,dig8]
theorem conv_bytes (B:Nat) (w:World) (v:Value) (xs:List Int) (h:OwnV 5 B w v (byteV xs)) (h1:1≤xs.length):(convert 34 9 v).run Tryz.prog w=.ok (.string (txtW xs)) w:=by
 have hl:(byteV xs).length=xs.length:=by simp [byteV,dig8]
 rcases h.2 with ⟨rfl,hn⟩ | ⟨g,cap,cur,rfl,hb,hg,hn,hm,hs,ht⟩
 ·omega
 ·refine run_convert_bytes_arg (P:=Tryz.prog) w 34 5 oneBytes.ht uByte g 0 (byteV xs).length cap (dig8 xs) (by simp [dig8,byteV]) (fun i hi=>?_) 9 uStr
  have:=h.at.cell i hi
  rw [valAt_row] at this
  rw [Nat.zero_add,this]
  have hi2:i<xs.length:=by rw [← hl]; exact hi
  simp [byteV,List.getD,dig8,hi2]
end Go.Proofs.YtindfaehjoileaaGreatDoor
namespace Go.Proofs.YtindfaehjoileaaGreatDoor
open Go.RowKit
structure Row where
 E:TypeId
 size:Nat
 v:Value
 n:Nat
 xs:List Value
def Row.own (B:Nat) (w:World) (r:Row):Prop:=w.ownsRow B r.E r.size r.v r.n r.xs
abbrev Names:=Nat×Nat→Option Row
def Rows (B:Nat) (w:World) (f:Names):Prop :=
 (∀ i r,f i=some r→r.own B w)∧(∀ i j r s,f i=some r→f j=some s→i≠j→r.v.ownBlock=none∨r.v.ownBlock≠s.v.ownBlock)
def upd (f:Names) (i:Nat×Nat) (r:Option Row):Names:=fun j=>if j=i then r else f j
theorem upd_same (f:Names) (i:Nat×Nat) (r:Option Row):upd f i r i=r:=by simp [upd]
theorem upd_ne (f:Names) {i j:Nat×Nat} (r:Option Row) (h:j≠i):upd f i r j=f j:=by simp [upd,h]
theorem Rows.void (B:Nat) (w:World):Rows B w (fun _=>Option.none):=by
 refine ⟨?_,?_⟩
 ·intro i r h; cases h
 ·intro i j r s h; cases h
theorem Rows.below {B:Nat} {w w':World} {f:Names} (h:Rows B w f) (hb:Below w.heap.size w w'):Rows B w' f :=
 ⟨fun i r hi=>by
   have ho:=h.1 i r hi
   refine ⟨ho.1,?_⟩
   rcases ho.2 with h2 | ⟨g,cap,cur,e,hB,hg,rest⟩
   ·exact .inl h2
   ·exact .inr ⟨g,cap,cur,e,hB,by rw [hb.block g (Array.getElem?_eq_some_iff.1 hg).1]; exact hg,rest⟩,h.2⟩
theorem Rows.drop {B:Nat} {w:World} {f:Names} (h:Rows B w f) (i:Nat×Nat):Rows B w (upd f i none) :=
 ⟨fun j r hj=>by
   by_cases e:j=i
   ·subst e; rw [upd_same] at hj; cases hj
   ·rw [upd_ne _ _ e] at hj; exact h.1 j r hj,fun j k r s hj hk hne=>by
   by_cases e:j=i
   ·subst e; rw [upd_same] at hj; cases hj
   by_cases e':k=i
   ·subst e'; rw [upd_same] at hk; cases hk
   rw [upd_ne _ _ e] at hj
   rw [upd_ne _ _ e'] at hk
   exact h.2 j k r s hj hk hne⟩
theorem Rows.lt {B:Nat} {w:World} {f:Names} (h:Rows B w f) {i:Nat×Nat} {r:Row} (hi:f i=some r):∀ k,r.v.ownBlock=some k→B≤k∧k<w.heap.size:=World.ownsRow.lt (h.1 i r hi)
theorem Rows.grown {B:Nat} {w w':World} {f:Names} {i:Nat×Nat} {r r':Row} (h:Rows B w f) (hi:f i=some r) (hg:w.grownBy w' r.v.ownBlock) (ho:r'.own B w') (hb:r'.v.ownBlock=r.v.ownBlock∨∃ k,r'.v.ownBlock=some k∧w.heap.size≤k) :
 Rows B w' (upd f i (some r')):=by
 have far:∀ j s,f j=some s→j≠i→s.v.ownBlock=none∨s.v.ownBlock≠r'.v.ownBlock:=fun j s hj hne=>by
  rcases hb with e | ⟨k,e,hk⟩
  ·rw [e]; exact h.2 j i s r hj hi hne
  ·cases hs:s.v.ownBlock with
   | none=>exact .inl rfl
   | some m =>
    have:=(h.lt hj m hs).2
    right; rw [e]; intro e2; injection e2 with e2; omega
 refine ⟨fun j s hj=>?_,fun j k s t hj hk hne=>?_⟩
 ·by_cases e:j=i
  ·subst e; rw [upd_same] at hj; cases hj; exact ho
  ·rw [upd_ne _ _ e] at hj
   exact World.ownsRow.kept (h.1 j s hj) hg (h.2 j i s r hj hi e)
 ·by_cases e:j=i
  ·subst e
   rw [upd_same] at hj; cases hj
   rw [upd_ne _ _ (Ne.symm hne)] at hk
   rcases far k t hk (Ne.symm hne) with e2 | e2
   ·cases hr:r'.v.ownBlock with
    | none=>exact .inl rfl
    | some m=>right; rw [e2]; simp
   ·exact .inr (Ne.symm e2)
  ·rw [upd_ne _ _ e] at hj
   by_cases e':k=i
   ·subst e'; rw [upd_same] at hk; cases hk
    exact far j s hj e
   ·rw [upd_ne _ _ e'] at hk
    exact h.2 j k s t hj hk hne
theorem Rows.fresh {B:Nat} {w w':World} {f:Names} {i:Nat×Nat} {r':Row} (h:Rows B w f) (hg:w.grownBy w' none) (ho:r'.own B w') (hb:∀ k,r'.v.ownBlock=some k→w.heap.size≤k) :
 Rows B w' (upd f i (some r')):=by
 refine ⟨fun j s hj=>?_,fun j k s t hj hk hne=>?_⟩
 ·by_cases e:j=i
  ·subst e; rw [upd_same] at hj; cases hj; exact ho
  ·rw [upd_ne _ _ e] at hj
   exact World.ownsRow.kept (h.1 j s hj) hg (by cases s.v.ownBlock<;>simp)
 ·by_cases e:j=i
  ·subst e
   rw [upd_same] at hj; cases hj
   rw [upd_ne _ _ (Ne.symm hne)] at hk
   cases hr:r'.v.ownBlock with
   | none=>exact .inl rfl
   | some m =>
    right; intro e2
    have h1:=hb m hr
    have h2:=(h.lt hk m e2.symm).2
    omega
  ·rw [upd_ne _ _ e] at hj
   by_cases e':k=i
   ·subst e'; rw [upd_same] at hk; cases hk
    cases hs:s.v.ownBlock with
    | none=>exact .inl rfl
    | some m =>
     right; intro e2
     have h1:=hb m e2.symm
     have h2:=(h.lt hj m hs).2
     omega
   ·rw [upd_ne _ _ e'] at hk
    exact h.2 j k s t hj hk hne
theorem below_grows {w w':World} (h:Below w.heap.size w w') (row:Option Nat):w.grownBy w' row:=⟨h.os,h.tape,h.output,h.size,fun k hk _=>h.block k hk⟩
theorem grown_any {w w':World} (h:w.grownBy w' none) (row:Option Nat):w.grownBy w' row:=⟨h.os,h.tape,h.output,h.size,fun k hk _=>h.block k hk (by simp)⟩
theorem Rows.add {B:Nat} {w w':World} {f:Names} {i:Nat×Nat} {r':Row} (h:Rows B w f) (hb:Below w.heap.size w w') (ho:r'.own B w') (hn:∀ k,r'.v.ownBlock=some k→w.heap.size≤k):Rows B w' (upd f i (some r')) :=
 h.fresh (below_grows hb none) ho hn
theorem Rows.move {B:Nat} {w:World} {f:Names} {i j:Nat×Nat} {r r':Row} (h:Rows B w f) (hi:f i=some r) (ho:r'.own B w) (hb:r'.v.ownBlock=r.v.ownBlock):Rows B w (upd (upd f i none) j (some r')):=by
 refine ⟨fun k s hk=>?_,fun k l s t hk hl hne=>?_⟩
 ·by_cases e:k=j
  ·subst e; rw [upd_same] at hk; cases hk; exact ho
  ·rw [upd_ne _ _ e] at hk
   exact (h.drop i).1 k s hk
 ·by_cases e:k=j
  ·subst e
   rw [upd_same] at hk; cases hk
   rw [upd_ne _ _ (Ne.symm hne)] at hl
   by_cases e2:l=i
   ·subst e2; rw [upd_same] at hl; cases hl
   ·rw [upd_ne _ _ e2] at hl
    rw [hb]
    exact h.2 i l r t hi hl (Ne.symm e2)
  ·rw [upd_ne _ _ e] at hk
   by_cases e':l=j
   ·subst e'; rw [upd_same] at hl; cases hl
    by_cases e2:k=i
    ·subst e2; rw [upd_same] at hk; cases hk
    ·rw [upd_ne _ _ e2] at hk
     rw [hb]
     exact h.2 k i s r hk hi e2
   ·rw [upd_ne _ _ e'] at hl
    exact (h.drop i).2 k l s t hk hl hne
theorem Row.own.shape {B:Nat} {w:World} {r:Row} (h:r.own B w) (hn:0<r.n):∃ g cap,r.v=.slice (some ⟨g,0,none⟩) r.n cap∧B≤g:=by
 rcases h.2 with ⟨_,h0⟩ | ⟨g,cap,cur,e,hB,_⟩
 ·omega
 ·exact ⟨g,cap,e,hB⟩
theorem Rows.set {B:Nat} {w:World} {f:Names} {i:Nat×Nat} {r:Row} (h:Rows B w f) (hi:f i=some r) {g cap:Nat} (hv:r.v=.slice (some ⟨g,0,none⟩) r.n cap) (k:Nat) (y:Value) :
 Rows B (w.setCell ⟨g,k,none⟩ y) (upd f i (some { r with xs:=r.xs.set k y })):=by
 have ho:=h.1 i r hi
 unfold Row.own at ho
 rw [hv] at ho
 have hs:=World.ownsRow.stored ho k y
 refine h.grown hi (by rw [hv]; exact hs.2) ?_ (.inl rfl)
 unfold Row.own
 rw [hv]
 exact hs.1
theorem Rows.cell {B:Nat} {w:World} {f:Names} {i:Nat×Nat} {r:Row} (h:Rows B w f) (hi:f i=some r) {g cap:Nat} (hv:r.v=.slice (some ⟨g,0,none⟩) r.n cap) (k:Nat) (hk:k<r.n*r.size):w.cell? ⟨g,k,none⟩=r.xs[k]?:=by
 have ho:=h.1 i r hi
 unfold Row.own at ho
 rw [hv] at ho
 exact ho.cellAt k hk
theorem Rows.frozen {B:Nat} {w:World} {f:Names} {i:Nat×Nat} {r:Row} (h:Rows B w f) (hi:f i=some r) {g cap:Nat} (hv:r.v=.slice (some ⟨g,0,none⟩) r.n cap) (k:Nat):w.frozen? ⟨g,k,none⟩=false:=by
 have ho:=h.1 i r hi
 unfold Row.own at ho
 rw [hv] at ho
 exact ho.frozenAt k
theorem Rows.congr {B:Nat} {w:World} {f f':Names} (h:Rows B w f) (e:∀ i,f' i=f i):Rows B w f':=by
 rw [show f'=f from funext e]; exact h
theorem Rows.drew {B:Nat} {w:World} {f:Names} (h:Rows B w f):Rows B w.drew f:=h
theorem Rows.drewN {B:Nat} {w:World} {f:Names} (h:Rows B w f) (n:Nat):Rows B (w.drewN n) f:=h
abbrev rowI (v:Value) (xs:List Int):Row:=⟨3,1,v,xs.length,xs.map (Value.int .i64)⟩
abbrev rowV (E:TypeId) (v:Value) (vs:List Value):Row:=⟨E,1,v,vs.length,vs⟩
theorem Rows.ownI {B:Nat} {w:World} {f:Names} {i:Nat×Nat} {v:Value} {xs:List Int} (h:Rows B w f) (hi:f i=some (rowI v xs)):OwnI B w v xs:=h.1 i _ hi
theorem Rows.ownV {B:Nat} {w:World} {f:Names} {i:Nat×Nat} {E:TypeId} {v:Value} {vs:List Value} (h:Rows B w f) (hi:f i=some (rowV E v vs)):OwnV E B w v vs:=h.1 i _ hi
theorem Rows.setI {B:Nat} {w:World} {f:Names} {i:Nat×Nat} {v:Value} {xs:List Int} (h:Rows B w f) (hi:f i=some (rowI v xs)) (k:Nat) (hk:k<xs.length) (y:Int) :
 Rows B (w.setCell (valAt v k) (.int .i64 y)) (upd f i (some (rowI v (xs.set k y)))):=by
 have ho:=h.ownI hi
 have hs:=ho.set k hk y
 refine h.grown hi ?_ hs (.inl rfl)
 have:=ho.toV.setGrown k (by simpa using hk) (.int .i64 y)
 exact this
theorem Rows.setV {B:Nat} {w:World} {f:Names} {i:Nat×Nat} {E:TypeId} {v:Value} {vs:List Value} (h:Rows B w f) (hi:f i=some (rowV E v vs)) (k:Nat) (hk:k<vs.length) (y:Value) :
 Rows B (w.setCell (valAt v k) y) (upd f i (some (rowV E v (vs.set k y)))):=by
 have ho:=h.ownV hi
 refine h.grown hi (ho.setGrown k hk y) ?_ (.inl rfl)
 have:=ho.set k hk y
 unfold Row.own
 exact this
end Go.Proofs.YtindfaehjoileaaGreatDoor
