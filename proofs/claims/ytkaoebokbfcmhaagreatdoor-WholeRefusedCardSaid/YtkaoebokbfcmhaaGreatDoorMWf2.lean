/-
  Texts that the proof leans on.
-/
import Derived.Test.YtkaoebokbfcmhaaGreatDoorMWf1
import Derived.Laws.BytesArg
import Derived.Maps.OwnSet
import Derived.StringKeys
import Derived.Laws.Bits64b
import Derived.Deep.RegionLawGrows
import Derived.Deep.RegionHeld3
import Derived.LaidEql
import Derived.Stop.Asserts
import Derived.RowKitTokens
import Derived.Deep.LoopGhost
namespace Go.Proofs.YtkaoebokbfcmhaaGreatDoor
def sPairs:ByteArray:=⟨#[112,97,105,114,115]⟩
def toN (K N u s:Nat):Nat:=(u*K+s)%N
def labN (K:Nat) (T:List Int) (u s:Nat):Int:=T.getD (u*K+s) 0
def rawT (K N:Nat) (T:List Int) (u v s t:Nat):List Nat:=if labN K T u s=labN K T v t then [toN K N u s*N+toN K N v t] else []
def rawS (K N:Nat) (T:List Int) (u v s n:Nat):List Nat:=(List.range n).flatMap fun t=>rawT K N T u v s t
def rawP (K N:Nat) (T:List Int) (u v n:Nat):List Nat:=(List.range n).flatMap fun s=>rawS K N T u v s K
theorem rawS_succ (K N:Nat) (T:List Int) (u v s n:Nat):rawS K N T u v s (n+1)=rawS K N T u v s n++rawT K N T u v s n:=by
 simp [rawS,List.range_succ]
theorem rawP_succ (K N:Nat) (T:List Int) (u v n:Nat):rawP K N T u v (n+1)=rawP K N T u v n++rawS K N T u v n K:=by
 simp [rawP,List.range_succ]
theorem rawT_len (K N:Nat) (T:List Int) (u v s t:Nat):(rawT K N T u v s t).length≤1:=by unfold rawT; split<;>simp
theorem rawS_len (K N:Nat) (T:List Int) (u v s n:Nat):(rawS K N T u v s n).length≤n:=by
 induction n with
 | zero=>simp [rawS]
 | succ n ih=>rw [rawS_succ,List.length_append]; have:=rawT_len K N T u v s n; omega
theorem rawP_len (K N:Nat) (T:List Int) (u v n:Nat):(rawP K N T u v n).length≤n*K:=by
 induction n with
 | zero=>simp [rawP]
 | succ n ih=>rw [rawP_succ,List.length_append,Nat.add_mul]; have:=rawS_len K N T u v n K; omega
def Arr (K N:Nat) (T:List Int) (u v q:Nat):Prop:=∃ s t,s<K∧t<K∧labN K T u s=labN K T v t∧q=toN K N u s*N+toN K N v t
theorem mem_rawP {K N:Nat} {T:List Int} {u v q:Nat}:q∈rawP K N T u v K↔Arr K N T u v q:=by
 unfold rawP rawS rawT Arr
 simp only [List.mem_flatMap,List.mem_range]
 constructor
 ·rintro ⟨s,hs,t,ht,h⟩
  split at h
  ·rename_i e
   exact ⟨s,t,hs,ht,e,by simpa using h⟩
  ·cases h
 ·rintro ⟨s,t,hs,ht,e,h⟩
  exact ⟨s,hs,t,ht,by rw [if_pos e]; simpa using h⟩
theorem toN_lt {K N u s:Nat} (hN:0<N):toN K N u s<N:=Nat.mod_lt _ hN
theorem pair_lt {N a b:Nat} (ha:a<N) (hb:b<N):a*N+b<N*N:=by
 have:=Nat.mul_le_mul_right N (show a+1≤N by omega)
 rw [Nat.add_mul] at this; omega
theorem pair_div {N a b:Nat} (hb:b<N):(a*N+b)/N=a:=div_mk hb
theorem pair_mod {N a b:Nat} (hb:b<N):(a*N+b)%N=b:=mod_mk hb
theorem pair_eq (p N:Nat):p/N*N+p%N=p:=by rw [Nat.mul_comm]; exact Nat.div_add_mod p N
theorem div_lt_of {p N:Nat} (h:p<N*N):p/N<N:=Nat.div_lt_of_lt_mul h
theorem Arr.lt {K N:Nat} {T:List Int} {u v q:Nat} (hN:0<N) (h:Arr K N T u v q):q<N*N:=by
 obtain ⟨s,t,_,_,_,rfl⟩:=h
 exact pair_lt (toN_lt hN) (toN_lt hN)
def pairL (K N:Nat) (T:List Int) (p:Nat):List Nat:=(List.range (N*N)).filter fun q=>decide (q∈rawP K N T (p/N) (p%N) K)
theorem pairL_sorted (K N:Nat) (T:List Int) (p:Nat):(pairL K N T p).Pairwise (·<·):=List.Pairwise.filter _ List.pairwise_lt_range
theorem mem_pairL {K N:Nat} {T:List Int} {p q:Nat} (hN:0<N):q∈pairL K N T p↔Arr K N T (p/N) (p%N) q:=by
 unfold pairL
 rw [List.mem_filter,List.mem_range,decide_eq_true_iff,mem_rawP]
 exact ⟨fun h=>h.2,fun h=>⟨h.lt hN,h⟩⟩
theorem nodup_sub {α:Type} [DecidableEq α]:∀ {l m:List α},l.Nodup→l ⊆ m→l.length≤m.length
 | [],_,_,_=>by simp
 | a::l,m,hn,hs=>by
  obtain ⟨h1,h2⟩:=List.nodup_cons.1 hn
  have ha:=hs List.mem_cons_self
  have:=nodup_sub (l:=l) (m:=m.erase a) h2 (fun b hb=>(List.mem_erase_of_ne (fun e=>h1 (by rw [← e]; exact hb))).2 (hs (List.mem_cons_of_mem _ hb)))
  have hl:=List.length_erase_of_mem ha
  have:=List.length_pos_of_mem ha
  simp only [List.length_cons]; omega
theorem pairL_len (K N:Nat) (T:List Int) (p:Nat):(pairL K N T p).length≤K*K:=by
 have hn:(pairL K N T p).Nodup:=(pairL_sorted K N T p).imp (fun h=>Nat.ne_of_lt h)
 have hs:pairL K N T p ⊆ rawP K N T (p/N) (p%N) K:=fun q hq=>by
  unfold pairL at hq
  simpa using (List.mem_filter.1 hq).2
 exact Nat.le_trans (nodup_sub hn hs) (rawP_len ..)
def nodeAt (K m:Nat) (x:List Int) (i:Nat):Nat:=numW K ((x.drop i).take m)
theorem win_snoc {x:List Int} {i m:Nat} (h:i+m<x.length):(x.drop i).take (m+1)=(x.drop i).take m++[x.getD (i+m) 0]:=by
 rw [List.take_add_one,List.getElem?_drop]
 simp [List.getD,h]
theorem win_cons {x:List Int} {i m:Nat}:((x.drop i).take (m+1)).drop 1=(x.drop (i+1)).take m:=by
 rw [List.drop_take]; simp
theorem syms_drop {K:Int} {x:List Int} (h:Syms K x) (i:Nat):Syms K (x.drop i):=fun y hy=>h y (List.mem_of_mem_drop hy)
theorem syms_take {K:Int} {x:List Int} (h:Syms K x) (i:Nat):Syms K (x.take i):=fun y hy=>h y (List.mem_of_mem_take hy)
theorem syms_at {K:Nat} {x:List Int} (h:Syms K x) {i:Nat} (hi:i<x.length):0≤x.getD i 0∧x.getD i 0<K∧(x.getD i 0).toNat<K:=by
 have:=h (x[i]) (List.getElem_mem hi)
 simp only [List.getD_eq_getElem?_getD,List.getElem?_eq_getElem hi,Option.getD_some]
 omega
theorem win_num {K m:Nat} {x:List Int} {i:Nat} (h:i+m<x.length):numW K ((x.drop i).take (m+1))=nodeAt K m x i*K+(x.getD (i+m) 0).toNat:=by
 rw [win_snoc h,numW_snoc]; rfl
theorem node_lt {K m:Nat} {x:List Int} (hx:Syms K x) {i:Nat} (h:i+m≤x.length):nodeAt K m x i<pw K m:=by
 have:=numW_lt _ (syms_take (syms_drop hx i) m)
 rwa [show ((x.drop i).take m).length=m by simp; omega] at this
theorem node_next {K m:Nat} {x:List Int} (hx:Syms K x) {i:Nat} (h:i+m<x.length):nodeAt K m x (i+1)=toN K (pw K m) (nodeAt K m x i) (x.getD (i+m) 0).toNat:=by
 have hl:((x.drop i).take m).length=m:=by simp; omega
 have hs:Syms K ((x.drop i).take m++[x.getD (i+m) 0]):=by rw [← win_snoc h]; exact syms_take (syms_drop hx i) _
 have:=num_shift hs
 rw [← win_snoc h,win_cons,hl,win_num h] at this
 exact this
theorem img_at {K R:Nat} {T x:List Int} {i:Nat} (h:i+2*R<x.length):(imgP K R T x).getD i 0=labN K T (nodeAt K (2*R) x i) (x.getD (i+2*R) 0).toNat:=by
 rw [imgP_getD _ _ _ _ _ (by omega),win_num h]; rfl
theorem img_eq {K R:Nat} {T x y:List Int} (hl:x.length=y.length):imgP K R T x=imgP K R T y ↔
 ∀ i,i+2*R<x.length→labN K T (nodeAt K (2*R) x i) (x.getD (i+2*R) 0).toNat=labN K T (nodeAt K (2*R) y i) (y.getD (i+2*R) 0).toNat:=by
 constructor
 ·intro h i hi
  rw [← img_at hi,← img_at (by omega),h]
 ·intro h
  refine List.ext_getElem (by rw [imgP_length,imgP_length,hl]) fun i h1 h2=>?_
  rw [imgP_length] at h1 h2
  have:=h i (by omega)
  rw [← img_at (by omega),← img_at (by omega)] at this
  simpa [List.getD_eq_getElem?_getD,imgP_length,h1,h2] using this
theorem wayW_arr {K R:Nat} {T x y:List Int} (hx:Syms K x) (hy:Syms K y) (hl:x.length=y.length) (he:imgP K R T x=imgP K R T y) {i:Nat} (hi:i+2*R<x.length) :
 Arr K (pw K (2*R)) T (nodeAt K (2*R) x i) (nodeAt K (2*R) y i) (nodeAt K (2*R) x (i+1)*pw K (2*R)+nodeAt K (2*R) y (i+1)) :=
 ⟨_,_,(syms_at hx hi).2.2,(syms_at hy (by omega)).2.2,(img_eq hl).1 he i hi,by rw [node_next hx hi,node_next hy (by omega)]⟩
def StepFits (K N:Nat) (T:List Int) (p q:Nat):Prop :=
 toN K N (p/N) (q/N%K)=q/N∧toN K N (p%N) (q%N%K)=q%N∧labN K T (p/N) (q/N%K)=labN K T (p%N) (q%N%K)
instance (K N:Nat) (T:List Int) (p q:Nat):Decidable (StepFits K N T p q):=by unfold StepFits; exact inferInstance
theorem toN_mod {K R u s:Nat} (_hK:1≤K) (hR:1≤R) (hs:s<K):toN K (pw K (2*R)) u s%K=s:=by
 unfold toN
 have:K ∣ pw K (2*R):=⟨pw K (2*R-1),by rw [Nat.mul_comm K,← pw_succ]; congr 1; omega⟩
 rw [Nat.mod_mod_of_dvd _ this,mod_mk hs]
theorem fits_iff {K R:Nat} {T:List Int} {p q:Nat} (hK:1≤K) (hR:1≤R) (hq:q<pw K (2*R)*pw K (2*R)) :
 StepFits K (pw K (2*R)) T p q↔Arr K (pw K (2*R)) T (p/pw K (2*R)) (p%pw K (2*R)) q:=by
 have hN:=pw_pos (K:=K) (2*R) hK
 constructor
 ·rintro ⟨h1,h2,h3⟩
  exact ⟨_,_,Nat.mod_lt _ (by omega),Nat.mod_lt _ (by omega),h3,by rw [h1,h2,pair_eq]⟩
 ·rintro ⟨s,t,hs,ht,e,rfl⟩
  unfold StepFits
  rw [pair_div (toN_lt (by omega)),pair_mod (toN_lt (by omega)),toN_mod hK hR hs,toN_mod hK hR ht]
  exact ⟨rfl,rfl,e⟩
def alongW (K m:Nat) (F:Nat→Nat) (way:List Nat):List Int:=digs K m (F (way.getD 0 0))++(way.drop 1).map fun p=>((F p%K:Nat):Int)
theorem alongW_len (K m:Nat) (F:Nat→Nat) (way:List Nat):(alongW K m F way).length=m+(way.length-1):=by simp [alongW,digs_length]
theorem alongW_syms {K m:Nat} (hK:1≤K) (F:Nat→Nat) (way:List Nat):Syms K (alongW K m F way):=by
 intro y hy
 rcases List.mem_append.1 hy with hy | hy
 ·exact digs_syms hK _ _ y hy
 ·obtain ⟨p,_,rfl⟩:=List.mem_map.1 hy
  have:=Nat.mod_lt (F p) (show 0<K by omega); omega
theorem alongW_get {K m:Nat} {F:Nat→Nat} {way:List Nat} {i:Nat} (h:i+1<way.length):(alongW K m F way).getD (i+m) 0=((F (way.getD (i+1) 0)%K:Nat):Int):=by
 unfold alongW
 rw [List.getD_eq_getElem?_getD,List.getElem?_append_right (by rw [digs_length]; omega),digs_length,Nat.add_sub_cancel,List.getElem?_map,List.getElem?_drop,Nat.add_comm 1 i]
 rw [List.getElem?_eq_getElem h]
 simp [List.getD,h]
theorem along_node {K m:Nat} (hK:1≤K) {F:Nat→Nat} {way:List Nat} (h0:F (way.getD 0 0)<pw K m) (hs:∀ i,i+1<way.length→toN K (pw K m) (F (way.getD i 0)) (F (way.getD (i+1) 0)%K)=F (way.getD (i+1) 0)) :
 ∀ i,i<way.length→nodeAt K m (alongW K m F way) i=F (way.getD i 0)
 | 0,_=>by
  unfold nodeAt alongW
  rw [List.drop_zero,List.take_append_of_le_length (by rw [digs_length]; omega),List.take_of_length_le (by rw [digs_length]; omega),numW_digs hK _ _ h0]
 | i+1,hi=>by
  have ih:=along_node hK h0 hs i (by omega)
  rw [node_next (alongW_syms hK F way) (by rw [alongW_len]; omega),ih,alongW_get hi,Int.toNat_natCast]
  exact hs i hi
theorem along_word {K R:Nat} (hK:1≤K) (hR:1≤R) {F:Nat→Nat} {x:List Int} (hx:Syms K x) (hl:2*R≤x.length) {way:List Nat} (hw:way.length=x.length-2*R+1)
 (hF:∀ i,i<way.length→F (way.getD i 0)=nodeAt K (2*R) x i):alongW K (2*R) F way=x:=by
 have hN:=pw_pos (K:=K) (2*R) hK
 refine List.ext_getElem (by rw [alongW_len]; omega) fun i h1 h2=>?_
 by_cases hi:i<2*R
 ·have e:digs K (2*R) (F (way.getD 0 0))=x.take (2*R):=by
   rw [hF 0 (by omega)]
   have:=digs_numW hK (x.take (2*R)) (syms_take hx _)
   rw [show (x.take (2*R)).length=2*R by simp; omega] at this
   simpa [nodeAt] using this
  simp only [alongW,e]
  rw [List.getElem_append_left (by simp; omega),List.getElem_take]
 ·obtain ⟨j,rfl⟩:∃ j,i=j+2*R:=⟨i-2*R,by omega⟩
  have hj:j+1<way.length:=by omega
  have:=alongW_get (K:=K) (m:=2*R) (F:=F) hj
  rw [hF (j+1) hj,node_next hx (by omega),toN_mod hK hR (syms_at hx (by omega)).2.2] at this
  simp only [List.getD_eq_getElem?_getD,List.getElem?_eq_getElem h1,List.getElem?_eq_getElem h2,Option.getD_some] at this
  rw [this]
  have:=(hx (x[j+2*R]) (List.getElem_mem _)).1
  omega
structure IsTwins (K R:Nat) (T a b:List Int):Prop where
 sa:Syms K a
 sb:Syms K b
 len:a.length=b.length
 ne:a≠b
 low:2*R≤a.length
 front:a.take (2*R)=b.take (2*R)
 back:a.drop (a.length-2*R)=b.drop (b.length-2*R)
 img:imgP K R T a=imgP K R T b
theorem IsTwins.symm {K R:Nat} {T a b:List Int} (h:IsTwins K R T a b):IsTwins K R T b a :=
 ⟨h.sb,h.sa,h.len.symm,h.ne.symm,by rw [← h.len]; exact h.low,h.front.symm,h.back.symm,h.img.symm⟩
def Diag (N p:Nat):Prop:=p/N=p%N
instance (N p:Nat):Decidable (Diag N p):=by unfold Diag; exact inferInstance
theorem diag_mk {N u:Nat} (h:u<N):Diag N (u*N+u):=by unfold Diag; rw [pair_div h,pair_mod h]
theorem Diag.eq {N p:Nat} (h:Diag N p):p=p/N*N+p/N:=by
 have:=pair_eq p N
 rw [← h] at this; exact this.symm
structure ApartWay (N:Nat) (adj:Nat→List Nat) (w:List Nat):Prop where
 len:3≤w.length
 low:∀ i,i<w.length→w.getD i 0<N*N
 arr:∀ i,i+1<w.length→w.getD (i+1) 0∈adj (w.getD i 0)
 fst:Diag N (w.getD 0 0)
 lst:Diag N (w.getD (w.length-1) 0)
 inn:∀ i,0<i→i+1<w.length→¬ Diag N (w.getD i 0)
theorem last_diag {N:Nat} {W:Nat→Nat} (h0:Diag N (W 0)):∀ i,¬ Diag N (W i)→∃ k,k<i∧Diag N (W k)∧∀ j,k<j→j≤i→¬ Diag N (W j)
 | 0,h=>absurd h0 h
 | i+1,h=>by
  by_cases q:Diag N (W i)
  ·exact ⟨i,by omega,q,fun j h1 h2=>by obtain rfl:j=i+1:=by omega
                                       exact h⟩
  ·obtain ⟨k,h1,h2,h3⟩:=last_diag h0 i q
   refine ⟨k,by omega,h2,fun j h4 h5=>?_⟩
   by_cases e:j=i+1
   ·subst e; exact h
   ·exact h3 j h4 (by omega)
theorem next_diag {N:Nat} {W:Nat→Nat} {i:Nat} (h:¬ Diag N (W i)):∀ k,Diag N (W (i+k))→∃ m,i<m∧m≤i+k∧Diag N (W m)∧∀ j,i≤j→j<m→¬ Diag N (W j)
 | 0,hk=>absurd hk h
 | k+1,hk=>by
  by_cases q:∃ m,i<m∧m≤i+k∧Diag N (W m)∧∀ j,i≤j→j<m→¬ Diag N (W j)
  ·obtain ⟨m,h1,h2,h3⟩:=q
   exact ⟨m,h1,by omega,h3⟩
  ·refine ⟨i+(k+1),by omega,Nat.le_refl _,hk,fun j h1 h2 hd=>q ?_⟩
   obtain ⟨d,rfl⟩:∃ d,j=i+d:=⟨j-i,by omega⟩
   obtain ⟨m,m1,m2,m3⟩:=next_diag h d hd
   exact ⟨m,m1,by omega,m3⟩
theorem list_range_get (f:Nat→Nat) (n i:Nat) (h:i<n):((List.range n).map f).getD i 0=f i:=by simp [List.getD,h]
theorem IsTwins.way {K R:Nat} {T a b:List Int} (hK:1≤K) (hR:1≤R) (h:IsTwins K R T a b):∃ w,ApartWay (pw K (2*R)) (pairL K (pw K (2*R)) T) w∧2*R+(w.length-1)≤a.length:=by
 have hlen:=h.len
 have hlow:=h.low
 have hN:=pw_pos (K:=K) (2*R) hK
 have na:∀ i,i+2*R≤a.length→nodeAt K (2*R) a i<pw K (2*R):=fun i hi=>node_lt h.sa hi
 have nb:∀ i,i+2*R≤a.length→nodeAt K (2*R) b i<pw K (2*R):=fun i hi=>node_lt h.sb (by omega)
 obtain ⟨W,hW⟩:∃ W:Nat→Nat,W=fun i=>nodeAt K (2*R) a i*pw K (2*R)+nodeAt K (2*R) b i:=⟨_,rfl⟩
 have hWi:∀ i,W i=nodeAt K (2*R) a i*pw K (2*R)+nodeAt K (2*R) b i:=fun i=>by rw [hW]
 have dg:∀ i,i+2*R≤a.length→(Diag (pw K (2*R)) (W i)↔nodeAt K (2*R) a i=nodeAt K (2*R) b i):=fun i hi=>by
  unfold Diag; rw [hWi,pair_div (nb i hi),pair_mod (nb i hi)]
 have d0:Diag (pw K (2*R)) (W 0):=by
  rw [dg 0 (by omega)]; unfold nodeAt; rw [List.drop_zero,List.drop_zero,h.front]
 obtain ⟨n,hn⟩:∃ n,a.length=n+2*R:=⟨a.length-2*R,by omega⟩
 have dn:Diag (pw K (2*R)) (W n):=by
  rw [dg n (by omega)]; unfold nodeAt
  have:=h.back
  rw [← hlen,hn,Nat.add_sub_cancel] at this
  rw [this]
 have hex:∃ i,i≤n∧¬ Diag (pw K (2*R)) (W i):=by
  apply Classical.byContradiction
  intro hno
  have hall:∀ i,i≤n→nodeAt K (2*R) a i=nodeAt K (2*R) b i:=fun i hi=>(dg i (by omega)).1 (Classical.byContradiction fun q=>hno ⟨i,hi,q⟩)
  apply h.ne
  have hget:∀ i,i<n+1→((List.range (n+1)).map (nodeAt K (2*R) a)).getD i 0=nodeAt K (2*R) a i:=fun i hi=>list_range_get _ _ _ hi
  have e1:=along_word (F:=id) (way:=(List.range (n+1)).map (nodeAt K (2*R) a)) hK hR h.sa h.low (by simp; omega) (fun i hi=>hget i (by simpa using hi))
  have e2:=along_word (F:=id) (way:=(List.range (n+1)).map (nodeAt K (2*R) a)) hK hR h.sb (by omega) (by simp; omega) (fun i hi=>by
   have hi:i<n+1:=by simpa using hi
   show ((List.range (n+1)).map (nodeAt K (2*R) a)).getD i 0=_
   rw [hget i hi,hall i (by omega)])
  rw [← e1,e2]
 obtain ⟨i,hi,hnd⟩:=hex
 obtain ⟨k,k1,k2,k3⟩:=last_diag d0 i hnd
 obtain ⟨m,m1,m2,m3,m4⟩:=next_diag hnd (n-i) (by rw [show i+(n-i)=n by omega]; exact dn)
 have hget:∀ j,j<m-k+1→((List.range (m-k+1)).map fun j=>W (k+j)).getD j 0=W (k+j):=fun j hj=>list_range_get _ _ _ hj
 refine ⟨(List.range (m-k+1)).map fun j=>W (k+j),⟨by simp; omega,fun j hj=>?_,fun j hj=>?_,?_,?_,fun j j0 j1=>?_⟩,by simp; omega⟩
 ·rw [hget j (by simpa using hj),hWi]
  have:j<m-k+1:=by simpa using hj
  exact pair_lt (na _ (by omega)) (nb _ (by omega))
 ·have hj:j+1<m-k+1:=by simpa using hj
  rw [hget j (by omega),hget (j+1) hj,mem_pairL (by omega),hWi,hWi,pair_div (nb _ (by omega)),pair_mod (nb _ (by omega)),← Nat.add_assoc]
  exact wayW_arr h.sa h.sb hlen h.img (by omega)
 ·rw [hget 0 (by omega)]; exact k2
 ·rw [List.length_map,List.length_range,Nat.add_sub_cancel,hget _ (by omega),show k+(m-k)=m by omega]; exact m3
 ·have hj:j+1<m-k+1:=by simpa using j1
  rw [hget j (by omega)]
  by_cases q:k+j≤i
  ·exact k3 _ (by omega) q
  ·exact m4 _ (by omega) (by omega)
theorem ways_words {K R:Nat} {T:List Int} {w:List Nat} (hK:1≤K) (hR:1≤R) (hw:1≤w.length) (low:∀ i,i<w.length→w.getD i 0<pw K (2*R)*pw K (2*R))
 (arr:∀ i,i+1<w.length→w.getD (i+1) 0∈pairL K (pw K (2*R)) T (w.getD i 0)) :
 (∀ i,i<w.length→nodeAt K (2*R) (alongW K (2*R) (·/pw K (2*R)) w) i=w.getD i 0/pw K (2*R)∧nodeAt K (2*R) (alongW K (2*R) (·%pw K (2*R)) w) i=w.getD i 0%pw K (2*R)) ∧
 imgP K R T (alongW K (2*R) (·/pw K (2*R)) w)=imgP K R T (alongW K (2*R) (·%pw K (2*R)) w):=by
 have hN:=pw_pos (K:=K) (2*R) hK
 have fits:∀ i,i+1<w.length→StepFits K (pw K (2*R)) T (w.getD i 0) (w.getD (i+1) 0):=fun i hi =>
  (fits_iff hK hR (low _ hi)).2 ((mem_pairL (by omega)).1 (arr i hi))
 have n1:=along_node (K:=K) (m:=2*R) (F:=(·/pw K (2*R))) (way:=w) hK (div_lt_of (low 0 (by omega))) (fun i hi=>(fits i hi).1)
 have n2:=along_node (K:=K) (m:=2*R) (F:=(·%pw K (2*R))) (way:=w) hK (Nat.mod_lt _ (by omega)) (fun i hi=>(fits i hi).2.1)
 refine ⟨fun i hi=>⟨n1 i hi,n2 i hi⟩,?_⟩
 rw [img_eq (by rw [alongW_len,alongW_len])]
 intro i hi
 rw [alongW_len] at hi
 rw [n1 i (by omega),n2 i (by omega),alongW_get (by omega),alongW_get (by omega),Int.toNat_natCast,Int.toNat_natCast]
 exact (fits i (by omega)).2.2
theorem ApartWay.twins {K R:Nat} {T:List Int} {w:List Nat} (hK:1≤K) (hR:1≤R) (h:ApartWay (pw K (2*R)) (pairL K (pw K (2*R)) T) w) :
 IsTwins K R T (alongW K (2*R) (·/pw K (2*R)) w) (alongW K (2*R) (·%pw K (2*R)) w):=by
 have hN:=pw_pos (K:=K) (2*R) hK
 have h3:=h.len
 obtain ⟨hn,hi⟩:=ways_words hK hR (by omega) h.low h.arr
 have la:=alongW_len K (2*R) (·/pw K (2*R)) w
 have lb:=alongW_len K (2*R) (·%pw K (2*R)) w
 have sa:=alongW_syms (m:=2*R) hK (·/pw K (2*R)) w
 have sb:=alongW_syms (m:=2*R) hK (·%pw K (2*R)) w
 generalize alongW K (2*R) (·/pw K (2*R)) w=a at *
 generalize alongW K (2*R) (·%pw K (2*R)) w=b at *
 have same:∀ i,i<w.length→Diag (pw K (2*R)) (w.getD i 0)→(a.drop i).take (2*R)=(b.drop i).take (2*R):=fun i hi hd=>by
  obtain ⟨e1,e2⟩:=hn i hi
  have q1:=digs_numW hK _ (syms_take (syms_drop sa i) (2*R))
  have q2:=digs_numW hK _ (syms_take (syms_drop sb i) (2*R))
  rw [show ((a.drop i).take (2*R)).length=2*R by simp; omega] at q1
  rw [show ((b.drop i).take (2*R)).length=2*R by simp; omega] at q2
  rw [← q1,← q2]
  show digs K (2*R) (nodeAt K (2*R) a i)=digs K (2*R) (nodeAt K (2*R) b i)
  rw [e1,e2,hd]
 refine ⟨sa,sb,by omega,fun e=>?_,by omega,?_,?_,hi⟩
 ·subst e
  obtain ⟨e1,e2⟩:=hn 1 (by omega)
  exact h.inn 1 (by omega) (by omega) (e1.symm.trans e2)
 ·have:=same 0 (by omega) h.fst
  simpa using this
 ·have:=same (w.length-1) (by omega) h.lst
  rw [List.take_of_length_le (by simp; omega),List.take_of_length_le (by simp; omega)] at this
  rw [show a.length-2*R=w.length-1 by omega,show b.length-2*R=w.length-1 by omega]
  exact this
def TwinLen (K R:Nat) (T:List Int) (n:Nat):Prop:=(∃ a b,IsTwins K R T a b∧a.length=n)∧∀ a b,IsTwins K R T a b→n≤a.length
theorem way_twinLen {K R:Nat} {T:List Int} {w:List Nat} (hK:1≤K) (hR:1≤R) (h:ApartWay (pw K (2*R)) (pairL K (pw K (2*R)) T) w)
 (hm:∀ u,ApartWay (pw K (2*R)) (pairL K (pw K (2*R)) T) u→w.length≤u.length):TwinLen K R T (2*R+(w.length-1)):=by
 refine ⟨⟨_,_,h.twins hK hR,alongW_len ..⟩,fun a b hab=>?_⟩
 obtain ⟨u,hu,hl⟩:=hab.way hK hR
 have:=hm u hu
 omega
theorem no_twins {K R:Nat} {T:List Int} (hK:1≤K) (hR:1≤R) (hm:∀ u,¬ ApartWay (pw K (2*R)) (pairL K (pw K (2*R)) T) u) (a b:List Int):¬ IsTwins K R T a b:=fun h=>by
 obtain ⟨u,hu,_⟩:=h.way hK hR
 exact hm u hu
theorem emod_nat {a:Int} {n:Nat} (hn:1≤n):∃ m:Nat,m<n∧a%(n:Int)=m:=by
 have h1:=Int.emod_nonneg a (show (n:Int)≠0 by omega)
 have h2:=Int.emod_lt_of_pos a (show (0:Int)<n by omega)
 exact ⟨(a%(n:Int)).toNat,by omega,by omega⟩
theorem getD_syms {K:Int} {x:List Int} (h:Syms K x) {i:Nat} (hi:i<x.length):0≤x.getD i 0∧x.getD i 0<K:=by
 have e:x.getD i 0=x[i]:=by simp [List.getD,hi]
 rw [e]; exact h _ (List.getElem_mem hi)
open Go.RowKit
set_option maxRecDepth 100000
theorem oneBytes:OneCell 283 5 (.int .u8 0) 1:=⟨by kernel_rfl,by kernel_rfl,rfl,by decide,fun _=>by kernel_rfl⟩
theorem uByte:Tryz.prog.underlying 5=some (.int .u8):=by kernel_rfl
theorem uStr:Tryz.prog.underlying 9=some .string:=by kernel_rfl
theorem wpl_makeV0 {T E:TypeId} {z:Value} {b:Nat} (oc:OneCell T E z b) {w:World} {ops:Array Oper} {rest:List Oper} {o:Oper} {a:Act} {Q:Exit→Act→World→Prop}
 (hg:o.guard=none) (l c:Operand) (hop:o.op=Op.makeSlice T l c) (n:Nat) (hl:a.eval l=.int .i64 0) (hc:a.eval c=.int .i64 (n:Int)) (hC:n≤100000)
 (hK:∀ v w',OwnV E w.heap.size w' v []→Below w.heap.size w w'→wpList Tryz.prog ops Q rest (a.put o.dst v) w') :
 wpList Tryz.prog ops Q (o::rest) a w:=by
 obtain ⟨i,hi,hz0,hz1,hz2⟩:=info_parts oc.hi
 have hb:=oc.hb
 refine wpList_make_own w hg l c T hop w.heap.size E i z 1 oc.ht hi hz0 hz1 .i64 .i64 n n hl hc rfl (by
  rw [hz2]
  calc b*n≤32*100000:=Nat.mul_le_mul hb hC
   _≤_:=by decide) (by unfold maxLen; omega) (Nat.le_refl _) ?_
 intro w' hown hgrow
 exact hK _ _ hown ((Below.refl _ _).grown hgrow (Nat.le_refl _) (by intro k hk; cases hk))
theorem wpl_appV {T E:TypeId} {z:Value} {b:Nat} (oc:OneCell T E z b) {w:World} {ops:Array Oper} {rest:List Oper} {o:Oper} {a:Act} {Q:Exit→Act→World→Prop} (hgd:o.guard=none) (s x:Operand)
 (ho:o.op=.call { callee:=.builtin .append,args:=#[s,x],argTypes:=#[T,T] })
 (B:Nat) (v:Value) (xs:List Value) (y:Value) (hy:y.oneCell'=true) (hown:OwnV E B w v xs) (hs:a.eval s=v) (hx:a.eval x=.slice (some ⟨w.heap.size,0,none⟩) 1 1)
 (hlen:xs.length<4398046511104) (hB:B≤w.heap.size)
 (h:∀ v' w',OwnV E B w' v' (xs++[y])→Below B w w'→wpList Tryz.prog ops Q rest (a.put o.dst v') w') :
 wpList Tryz.prog ops Q (o::rest) a (w.alloc (.cells #[y] E)):=by
 refine wpList_plain hgd fun K hK=>?_
 obtain ⟨v',w',hr,h2,h3⟩:=run_app oc (w.alloc (.cells #[y] E)) B o.type v _ (hown.alloc _) ⟨w.heap.size,0,none⟩ 1 [y] (by simp) (cell_one_new _ _ _) (by simp [hy]) (by simp; omega) (by simp; omega)
 unfold Oper.wp execOp
 simp only [ho,resolve,invoke,builtin,Sem.run_bind,Sem.run_pure,Result.andThen_ok,List.map_toArray,List.map_cons,List.map_nil,hs,hx]
 rw [show ([y]:List Value).length=1 from rfl] at hr
 rw [hr]
 have hal:∀ row,w.grownBy (w.alloc (.cells #[y] E)) row:=fun row=>World.grownBy_alloc w _ row
 rcases h3 with ⟨_,hg⟩ | ⟨_,hg⟩
 ·exact hK _ _ (h v' w' h2 ((Below.refl _ _).grown ((hal v.ownBlock).trans hg) hB (fun k hk=>(hown.lt k hk).1)))
 ·exact hK _ _ (h v' w' h2 ((Below.refl _ _).grown ((hal none).trans hg) hB (by intro k hk; cases hk)))
end Go.Proofs.YtkaoebokbfcmhaaGreatDoor
namespace Go.Proofs.YtkaoebokbfcmhaaGreatDoor
open Go.RowKit
structure Row where
 E:TypeId
 size:Nat
 v:Value
 n:Nat
 xs:List Value
def Row.own (B:Nat) (w:World) (r:Row):Prop:=w.ownsRow B r.E r.size r.v r.n r.xs
abbrev Names:=Nat×Nat→Option Row
def Rows (B:Nat) (w:World) (f:Names):Prop :=
 (∀ i r,f i=some r→r.own B w)∧(∀ i j r s,f i=some r→f j=some s→i≠j→r.v.ownBlock=none∨r.v.ownBlock≠s.v.ownBlock)
def upd (f:Names) (i:Nat×Nat) (r:Option Row):Names:=fun j=>if j=i then r else f j
theorem upd_same (f:Names) (i:Nat×Nat) (r:Option Row):upd f i r i=r:=by simp [upd]
theorem upd_ne (f:Names) {i j:Nat×Nat} (r:Option Row) (h:j≠i):upd f i r j=f j:=by simp [upd,h]
theorem Rows.void (B:Nat) (w:World):Rows B w (fun _=>Option.none):=by
 refine ⟨?_,?_⟩
 ·intro i r h; cases h
 ·intro i j r s h; cases h
theorem Rows.below {B:Nat} {w w':World} {f:Names} (h:Rows B w f) (hb:Below w.heap.size w w'):Rows B w' f :=
 ⟨fun i r hi=>by
   have ho:=h.1 i r hi
   refine ⟨ho.1,?_⟩
   rcases ho.2 with h2 | ⟨g,cap,cur,e,hB,hg,rest⟩
   ·exact .inl h2
   ·exact .inr ⟨g,cap,cur,e,hB,by rw [hb.block g (Array.getElem?_eq_some_iff.1 hg).1]; exact hg,rest⟩,h.2⟩
theorem Rows.drop {B:Nat} {w:World} {f:Names} (h:Rows B w f) (i:Nat×Nat):Rows B w (upd f i none) :=
 ⟨fun j r hj=>by
   by_cases e:j=i
   ·subst e; rw [upd_same] at hj; cases hj
   ·rw [upd_ne _ _ e] at hj; exact h.1 j r hj,fun j k r s hj hk hne=>by
   by_cases e:j=i
   ·subst e; rw [upd_same] at hj; cases hj
   by_cases e':k=i
   ·subst e'; rw [upd_same] at hk; cases hk
   rw [upd_ne _ _ e] at hj
   rw [upd_ne _ _ e'] at hk
   exact h.2 j k r s hj hk hne⟩
theorem Rows.lt {B:Nat} {w:World} {f:Names} (h:Rows B w f) {i:Nat×Nat} {r:Row} (hi:f i=some r):∀ k,r.v.ownBlock=some k→B≤k∧k<w.heap.size:=World.ownsRow.lt (h.1 i r hi)
theorem Rows.grown {B:Nat} {w w':World} {f:Names} {i:Nat×Nat} {r r':Row} (h:Rows B w f) (hi:f i=some r) (hg:w.grownBy w' r.v.ownBlock) (ho:r'.own B w') (hb:r'.v.ownBlock=r.v.ownBlock∨∃ k,r'.v.ownBlock=some k∧w.heap.size≤k) :
 Rows B w' (upd f i (some r')):=by
 have far:∀ j s,f j=some s→j≠i→s.v.ownBlock=none∨s.v.ownBlock≠r'.v.ownBlock:=fun j s hj hne=>by
  rcases hb with e | ⟨k,e,hk⟩
  ·rw [e]; exact h.2 j i s r hj hi hne
  ·cases hs:s.v.ownBlock with
   | none=>exact .inl rfl
   | some m =>
    have:=(h.lt hj m hs).2
    right; rw [e]; intro e2; injection e2 with e2; omega
 refine ⟨fun j s hj=>?_,fun j k s t hj hk hne=>?_⟩
 ·by_cases e:j=i
  ·subst e; rw [upd_same] at hj; cases hj; exact ho
  ·rw [upd_ne _ _ e] at hj
   exact World.ownsRow.kept (h.1 j s hj) hg (h.2 j i s r hj hi e)
 ·by_cases e:j=i
  ·subst e
   rw [upd_same] at hj; cases hj
   rw [upd_ne _ _ (Ne.symm hne)] at hk
   rcases far k t hk (Ne.symm hne) with e2 | e2
   ·cases hr:r'.v.ownBlock with
    | none=>exact .inl rfl
    | some m=>right; rw [e2]; simp
   ·exact .inr (Ne.symm e2)
  ·rw [upd_ne _ _ e] at hj
   by_cases e':k=i
   ·subst e'; rw [upd_same] at hk; cases hk
    exact far j s hj e
   ·rw [upd_ne _ _ e'] at hk
    exact h.2 j k s t hj hk hne
theorem Rows.fresh {B:Nat} {w w':World} {f:Names} {i:Nat×Nat} {r':Row} (h:Rows B w f) (hg:w.grownBy w' none) (ho:r'.own B w') (hb:∀ k,r'.v.ownBlock=some k→w.heap.size≤k) :
 Rows B w' (upd f i (some r')):=by
 refine ⟨fun j s hj=>?_,fun j k s t hj hk hne=>?_⟩
 ·by_cases e:j=i
  ·subst e; rw [upd_same] at hj; cases hj; exact ho
  ·rw [upd_ne _ _ e] at hj
   exact World.ownsRow.kept (h.1 j s hj) hg (by cases s.v.ownBlock<;>simp)
 ·by_cases e:j=i
  ·subst e
   rw [upd_same] at hj; cases hj
   rw [upd_ne _ _ (Ne.symm hne)] at hk
   cases hr:r'.v.ownBlock with
   | none=>exact .inl rfl
   | some m =>
    right; intro e2
    have h1:=hb m hr
    have h2:=(h.lt hk m e2.symm).2
    omega
  ·rw [upd_ne _ _ e] at hj
   by_cases e':k=i
   ·subst e'; rw [upd_same] at hk; cases hk
    cases hs:s.v.ownBlock with
    | none=>exact .inl rfl
    | some m =>
     right; intro e2
     have h1:=hb m e2.symm
     have h2:=(h.lt hj m hs).2
     omega
   ·rw [upd_ne _ _ e'] at hk
    exact h.2 j k s t hj hk hne
theorem below_grows {w w':World} (h:Below w.heap.size w w') (row:Option Nat):w.grownBy w' row:=⟨h.os,h.tape,h.output,h.size,fun k hk _=>h.block k hk⟩
theorem grown_any {w w':World} (h:w.grownBy w' none) (row:Option Nat):w.grownBy w' row:=⟨h.os,h.tape,h.output,h.size,fun k hk _=>h.block k hk (by simp)⟩
theorem Rows.add {B:Nat} {w w':World} {f:Names} {i:Nat×Nat} {r':Row} (h:Rows B w f) (hb:Below w.heap.size w w') (ho:r'.own B w') (hn:∀ k,r'.v.ownBlock=some k→w.heap.size≤k):Rows B w' (upd f i (some r')) :=
 h.fresh (below_grows hb none) ho hn
theorem Rows.move {B:Nat} {w:World} {f:Names} {i j:Nat×Nat} {r r':Row} (h:Rows B w f) (hi:f i=some r) (ho:r'.own B w) (hb:r'.v.ownBlock=r.v.ownBlock):Rows B w (upd (upd f i none) j (some r')):=by
 refine ⟨fun k s hk=>?_,fun k l s t hk hl hne=>?_⟩
 ·by_cases e:k=j
  ·subst e; rw [upd_same] at hk; cases hk; exact ho
  ·rw [upd_ne _ _ e] at hk
   exact (h.drop i).1 k s hk
 ·by_cases e:k=j
  ·subst e
   rw [upd_same] at hk; cases hk
   rw [upd_ne _ _ (Ne.symm hne)] at hl
   by_cases e2:l=i
   ·subst e2; rw [upd_same] at hl; cases hl
   ·rw [upd_ne _ _ e2] at hl
    rw [hb]
    exact h.2 i l r t hi hl (Ne.symm e2)
  ·rw [upd_ne _ _ e] at hk
   by_cases e':l=j
   ·subst e'; rw [upd_same] at hl; cases hl
    by_cases e2:k=i
    ·subst e2; rw [upd_same] at hk; cases hk
    ·rw [upd_ne _ _ e2] at hk
     rw [hb]
     exact h.2 k i s r hk hi e2
   ·rw [upd_ne _ _ e'] at hl
    exact (h.drop i).2 k l s t hk hl hne
theorem Row.own.shape {B:Nat} {w:World} {r:Row} (h:r.own B w) (hn:0<r.n):∃ g cap,r.v=.slice (some ⟨g,0,none⟩) r.n cap∧B≤g:=by
 rcases h.2 with ⟨_,h0⟩ | ⟨g,cap,cur,e,hB,_⟩
 ·omega
 ·exact ⟨g,cap,e,hB⟩
theorem Rows.set {B:Nat} {w:World} {f:Names} {i:Nat×Nat} {r:Row} (h:Rows B w f) (hi:f i=some r) {g cap:Nat} (hv:r.v=.slice (some ⟨g,0,none⟩) r.n cap) (k:Nat) (y:Value) :
 Rows B (w.setCell ⟨g,k,none⟩ y) (upd f i (some { r with xs:=r.xs.set k y })):=by
 have ho:=h.1 i r hi
 unfold Row.own at ho
 rw [hv] at ho
 have hs:=World.ownsRow.stored ho k y
 refine h.grown hi (by rw [hv]; exact hs.2) ?_ (.inl rfl)
 unfold Row.own
 rw [hv]
 exact hs.1
theorem Rows.cell {B:Nat} {w:World} {f:Names} {i:Nat×Nat} {r:Row} (h:Rows B w f) (hi:f i=some r) {g cap:Nat} (hv:r.v=.slice (some ⟨g,0,none⟩) r.n cap) (k:Nat) (hk:k<r.n*r.size):w.cell? ⟨g,k,none⟩=r.xs[k]?:=by
 have ho:=h.1 i r hi
 unfold Row.own at ho
 rw [hv] at ho
 exact ho.cellAt k hk
theorem Rows.frozen {B:Nat} {w:World} {f:Names} {i:Nat×Nat} {r:Row} (h:Rows B w f) (hi:f i=some r) {g cap:Nat} (hv:r.v=.slice (some ⟨g,0,none⟩) r.n cap) (k:Nat):w.frozen? ⟨g,k,none⟩=false:=by
 have ho:=h.1 i r hi
 unfold Row.own at ho
 rw [hv] at ho
 exact ho.frozenAt k
theorem Rows.congr {B:Nat} {w:World} {f f':Names} (h:Rows B w f) (e:∀ i,f' i=f i):Rows B w f':=by
 rw [show f'=f from funext e]; exact h
theorem Rows.drew {B:Nat} {w:World} {f:Names} (h:Rows B w f):Rows B w.drew f:=h
theorem Rows.drewN {B:Nat} {w:World} {f:Names} (h:Rows B w f) (n:Nat):Rows B (w.drewN n) f:=h
abbrev rowI (v:Value) (xs:List Int):Row:=⟨3,1,v,xs.length,xs.map (Value.int .i64)⟩
abbrev rowV (E:TypeId) (v:Value) (vs:List Value):Row:=⟨E,1,v,vs.length,vs⟩
theorem Rows.ownI {B:Nat} {w:World} {f:Names} {i:Nat×Nat} {v:Value} {xs:List Int} (h:Rows B w f) (hi:f i=some (rowI v xs)):OwnI B w v xs:=h.1 i _ hi
theorem Rows.ownV {B:Nat} {w:World} {f:Names} {i:Nat×Nat} {E:TypeId} {v:Value} {vs:List Value} (h:Rows B w f) (hi:f i=some (rowV E v vs)):OwnV E B w v vs:=h.1 i _ hi
theorem Rows.setI {B:Nat} {w:World} {f:Names} {i:Nat×Nat} {v:Value} {xs:List Int} (h:Rows B w f) (hi:f i=some (rowI v xs)) (k:Nat) (hk:k<xs.length) (y:Int) :
 Rows B (w.setCell (valAt v k) (.int .i64 y)) (upd f i (some (rowI v (xs.set k y)))):=by
 have ho:=h.ownI hi
 have hs:=ho.set k hk y
 refine h.grown hi ?_ hs (.inl rfl)
 have:=ho.toV.setGrown k (by simpa using hk) (.int .i64 y)
 exact this
theorem Rows.setV {B:Nat} {w:World} {f:Names} {i:Nat×Nat} {E:TypeId} {v:Value} {vs:List Value} (h:Rows B w f) (hi:f i=some (rowV E v vs)) (k:Nat) (hk:k<vs.length) (y:Value) :
 Rows B (w.setCell (valAt v k) y) (upd f i (some (rowV E v (vs.set k y)))):=by
 have ho:=h.ownV hi
 refine h.grown hi (ho.setGrown k hk y) ?_ (.inl rfl)
 have:=ho.set k hk y
 unfold Row.own
 exact this
end Go.Proofs.YtkaoebokbfcmhaaGreatDoor
namespace Go.Proofs.YtkaoebokbfcmhaaGreatDoor
def fillL (g:Nat→List Int→Bool×List Int):List Nat→List Int→Bool×List Int
 | [],tab=>(true,tab)
 | s::l,tab=>if (g s tab).1=true then fillL g l (g s tab).2 else g s tab
def fillF (K R W:Nat) (T:List Int):Nat→Nat→Nat→Nat→List Int→Bool×List Int
 | 0,_,image,middle,tab=>if 0≤tab.getD image 0∧tab.getD image 0≠(middle:Int) then (false,tab) else (true,tab.set image middle)
 | f+1,front,image,middle,tab=>fillL (fun s t=>fillF K R W T f ((front*K+s)%(T.length/K)) (if 2*R≤W-(f+1) then image*K+(T.getD (front*K+s) 0).toNat else image) (if W-(f+1)=W/2 then s else middle) t) (List.range K) tab
theorem fillL_len {g:Nat→List Int→Bool×List Int} (hg:∀ s t,(g s t).2.length=t.length) (l:List Nat) (tab:List Int):(fillL g l tab).2.length=tab.length:=by
 induction l generalizing tab with
 | nil=>rfl
 | cons s l ih =>
  unfold fillL
  split
  ·rw [ih,hg]
  ·exact hg s tab
theorem fillF_len (K R W:Nat) (T:List Int) (f front image middle:Nat) (tab:List Int):(fillF K R W T f front image middle tab).2.length=tab.length:=by
 induction f generalizing front image middle tab with
 | zero=>unfold fillF; split<;>simp
 | succ f ih=>unfold fillF; exact fillL_len (fun s t=>ih _ _ _ _) _ _
theorem fillL_cons (g:Nat→List Int→Bool×List Int) (s:Nat) (l:List Nat) (tab:List Int):fillL g (s::l) tab=if (g s tab).1=true then fillL g l (g s tab).2 else g s tab:=rfl
theorem fillL_append (g:Nat→List Int→Bool×List Int) (l m:List Nat) (tab:List Int):fillL g (l++m) tab=if (fillL g l tab).1=true then fillL g m (fillL g l tab).2 else fillL g l tab:=by
 induction l generalizing tab with
 | nil=>simp [fillL]
 | cons s l ih =>
  rw [List.cons_append,fillL_cons,fillL_cons]
  by_cases h:(g s tab).1=true
  ·rw [if_pos h,if_pos h]; exact ih _
  ·rw [if_neg h,if_neg h,if_neg h]
theorem fillL_succ {g:Nat→List Int→Bool×List Int} {i:Nat} {tab t:List Int} (h:fillL g (List.range i) tab=(true,t)):fillL g (List.range (i+1)) tab=g i t:=by
 rw [List.range_succ,fillL_append,h,if_pos rfl,fillL_cons]
 by_cases hh:(g i t).1=true
 ·rw [if_pos hh]; exact Prod.ext hh.symm rfl
 ·rw [if_neg hh]
theorem fillL_stop {g:Nat→List Int→Bool×List Int} {i n:Nat} {tab t:List Int} (hi:i<n) (h:fillL g (List.range i) tab=(true,t)) (hf:(g i t).1=false):fillL g (List.range n) tab=g i t:=by
 obtain ⟨m,rfl⟩:∃ m,n=(i+1)+m:=⟨n-(i+1),by omega⟩
 rw [List.range_add,fillL_append,fillL_succ h,if_neg (by rw [hf]; decide)]
def tryF (K R:Nat) (T:List Int) (d:Nat):Bool×List Int:=fillF K R (2*(R+d)+1) T (2*(R+d)+1) 0 0 0 (List.replicate (pw K (2*d+1)) (-1))
def findF (K R:Nat) (T:List Int):Nat→Nat→Option (Nat×List Int)
 | 0,_=>none
 | m+1,d=>if (tryF K R T d).1=true then some (d,(tryF K R T d).2) else findF K R T m (d+1)
def findP (K R:Nat) (T:List Int):Option (Nat×List Int):=findF K R T 4 0
def FillOk (K R:Nat) (T:List Int) (n front image:Nat):Prop:=front<T.length/K∧image<pw K (n-2*R)
theorem FillOk.zero {K R:Nat} {T:List Int} (hr:RuleOk K R T):FillOk K R T 0 0 0 :=
 ⟨by rw [hr.len,pw_succ,Nat.mul_div_cancel _ (by have:=hr.k1; omega)]; exact pw_pos _ hr.k1,by rw [Nat.zero_sub]; exact pw_pos _ hr.k1⟩
theorem FillOk.window {K R:Nat} {T:List Int} {n front image s:Nat} (hr:RuleOk K R T) (h:FillOk K R T n front image) (hs:s<K):front*K+s<T.length:=by
 have hD:T.length=T.length/K*K:=by
  rw [hr.len,pw_succ,Nat.mul_div_cancel _ (by have:=hr.k1; omega)]
 have h1:(front+1)*K≤T.length/K*K:=Nat.mul_le_mul_right _ h.1
 rw [Nat.add_mul] at h1
 omega
theorem FillOk.step {K R:Nat} {T:List Int} {n front image s:Nat} (hr:RuleOk K R T) (h:FillOk K R T n front image) (hs:s<K) :
 FillOk K R T (n+1) ((front*K+s)%(T.length/K)) (if 2*R≤n then image*K+(T.getD (front*K+s) 0).toNat else image):=by
 refine ⟨Nat.mod_lt _ (by have:=h.1; omega),?_⟩
 split
 ·rename_i hn
  have hw:=h.window hr hs
  have e:T.getD (front*K+s) 0=T[front*K+s]:=by simp [List.getD,hw]
  have h1:=hr.syms _ (List.getElem_mem hw)
  rw [e,show n+1-2*R=(n-2*R)+1 by omega,pw_succ]
  have h2:(image+1)*K≤pw K (n-2*R)*K:=Nat.mul_le_mul_right _ h.2
  rw [Nat.add_mul] at h2
  omega
 ·rename_i hn
  have h2:=h.2
  rw [show n-2*R=0 by omega] at h2
  rw [show n+1-2*R=0 by omega]
  exact h2
def wideT (K R d:Nat) (T:List Int):List Int:=(List.range (pw K (2*(R+d)+1))).map fun i=>T.getD (numW K (((digs K (2*(R+d)+1) i).drop d).take (2*R+1))) 0
theorem wideT_length (K R d:Nat) (T:List Int):(wideT K R d T).length=pw K (2*(R+d)+1):=by simp [wideT]
theorem wideT_ok {K R d:Nat} {T:List Int} (h:RuleOk K R T) (hd:R+d≤3):RuleOk K (R+d) (wideT K R d T) :=
 ⟨h.k1,h.k4,hd,wideT_length ..,fun y hy=>by
   obtain ⟨i,_,rfl⟩:=List.mem_map.1 hy
   exact h.syms.getD (by have:=h.k1; omega) _⟩
theorem wideT_at {K R d:Nat} {T:List Int} (hK:1≤K) (w:List Int) (hw:Syms K w) (hl:w.length=2*(R+d)+1):(wideT K R d T).getD (numW K w) 0=T.getD (numW K ((w.drop d).take (2*R+1))) 0:=by
 have hlt:=numW_lt w hw
 rw [hl] at hlt
 have:(wideT K R d T).getD (numW K w) 0=T.getD (numW K (((digs K (2*(R+d)+1) (numW K w)).drop d).take (2*R+1))) 0:=by simp [wideT,List.getD,hlt]
 rw [this,← hl,digs_numW hK w hw]
theorem img_wide {K R d:Nat} {T:List Int} (hK:1≤K) (x:List Int) (hx:Syms K x):imgP K (R+d) (wideT K R d T) x=imgP K R T ((x.drop d).take (x.length-2*d)):=by
 refine List.ext_getElem (by rw [imgP_length,imgP_length]; simp; omega) fun i h1 h2=>?_
 have e1:=imgP_getD K (R+d) (wideT K R d T) x i (by rw [imgP_length] at h1; exact h1)
 have e2:=imgP_getD K R T ((x.drop d).take (x.length-2*d)) i (by rw [imgP_length] at h2; exact h2)
 rw [imgP_length] at h1
 rw [List.getD_eq_getElem?_getD,List.getElem?_eq_getElem (by rw [imgP_length]; exact h1),Option.getD_some] at e1
 rw [List.getD_eq_getElem?_getD,List.getElem?_eq_getElem h2,Option.getD_some] at e2
 rw [e1,e2,wideT_at hK _ (syms_take (syms_drop hx i) _) (by simp; omega)]
 congr 2
 rw [List.drop_take,List.take_take,List.drop_drop,List.drop_take,List.drop_drop,List.take_take,Nat.add_comm d i]
 congr 1
 omega
theorem sub_get {x:List Int} {i m j:Nat} (h:j<m):((x.drop i).take m).getD j 0=x.getD (i+j) 0:=by
 simp [List.getD,h,List.getElem?_drop]
theorem ext_getD {a b:List Int} (hl:a.length=b.length) (h:∀ t,t<a.length→a.getD t 0=b.getD t 0):a=b :=
 List.ext_getElem hl fun t h1 h2=>by have:=h t h1; simpa [List.getD,h1,h2] using this
theorem img_cut {K R:Nat} {T x:List Int} {i m:Nat} (h:i+m≤x.length):imgP K R T ((x.drop i).take m)=((imgP K R T x).drop i).take (m-2*R):=by
 have hl:((x.drop i).take m).length=m:=by simp; omega
 refine ext_getD (by simp only [imgP_length,hl,List.length_take,List.length_drop]; omega) fun t ht=>?_
 rw [imgP_length,hl] at ht
 rw [imgP_getD _ _ _ _ _ (by rw [hl]; exact ht),sub_get ht,imgP_getD _ _ _ _ _ (by omega)]
 congr 2
 rw [List.drop_take,List.take_take,List.drop_drop,Nat.min_eq_left (by omega)]
def Split (K R:Nat) (T:List Int) (n:Nat):Prop:=∃ x y,Syms K x∧Syms K y∧x.length=2*n+1∧y.length=2*n+1∧x.getD n 0≠y.getD n 0∧imgP K R T x=imgP K R T y
def NotOne (K R:Nat) (T:List Int):Prop:=∀ n,Split K R T n
theorem split_of {K R:Nat} {T x y:List Int} (sx:Syms K x) (sy:Syms K y) (hl:x.length=y.length) {j n:Nat} (h1:n≤j) (h2:j+n<x.length) (hne:x.getD j 0≠y.getD j 0)
 (hi:imgP K R T ((x.drop (j-n)).take (2*n+1))=imgP K R T ((y.drop (j-n)).take (2*n+1))):Split K R T n :=
 ⟨_,_,syms_take (syms_drop sx _) _,syms_take (syms_drop sy _) _,by simp; omega,by simp; omega,by
   rw [sub_get (by omega),sub_get (by omega),show j-n+n=j by omega]; exact hne,hi⟩
theorem split_img {K R:Nat} {T x y:List Int} (sx:Syms K x) (sy:Syms K y) (hl:x.length=y.length) {j n:Nat} (h1:n≤j) (h2:j+n<x.length) (hne:x.getD j 0≠y.getD j 0)
 (hi:imgP K R T x=imgP K R T y):Split K R T n :=
 split_of sx sy hl h1 h2 hne (by rw [img_cut (by omega),img_cut (by omega),hi])
theorem Split.mono {K R:Nat} {T:List Int} {n m:Nat} (h:Split K R T n) (hm:m≤n):Split K R T m:=by
 obtain ⟨x,y,sx,sy,lx,ly,hne,hi⟩:=h
 exact split_img sx sy (by omega) (j:=n) hm (by omega) hne hi
theorem pad_get {z a v:List Int} {n j:Nat} (hz:z.length=n) (hj:j<a.length):(z++a++v).getD (n+j) 0=a.getD j 0:=by
 subst hz
 rw [List.append_assoc,List.getD_eq_getElem?_getD,List.getElem?_append_right (by omega),Nat.add_sub_cancel_left,List.getElem?_append_left hj,← List.getD_eq_getElem?_getD]
theorem syms_pad {K:Nat} (hK:1≤K) {a:List Int} (h:Syms K a) (n m:Nat):Syms K (List.replicate n 0++a++List.replicate m 0):=by
 intro y hy
 rcases List.mem_append.1 hy with hy | hy
 ·rcases List.mem_append.1 hy with hy | hy
  ·rw [List.eq_of_mem_replicate hy]; omega
  ·exact h y hy
 ·rw [List.eq_of_mem_replicate hy]; omega
theorem notOne_wide {K R d:Nat} {T:List Int} (hK:1≤K):NotOne K (R+d) (wideT K R d T)↔NotOne K R T:=by
 constructor
 ·intro h n
  obtain ⟨x,y,sx,sy,lx,ly,hne,e⟩:=h (n+d)
  rw [img_wide hK x sx,img_wide hK y sy] at e
  refine ⟨_,_,syms_take (syms_drop sx d) _,syms_take (syms_drop sy d) _,by simp; omega,by simp; omega,?_,e⟩
  rw [sub_get (by omega),sub_get (by omega),Nat.add_comm d n]
  exact hne
 ·intro h n
  obtain ⟨x,y,sx,sy,lx,ly,hne,e⟩:=h n
  have mid:∀ u:List Int,((List.replicate d (0:Int)++u++List.replicate d 0).drop d).take ((List.replicate d (0:Int)++u++List.replicate d 0).length-2*d)=u:=fun u=>by
   rw [List.append_assoc,List.drop_left' (by simp),List.take_left' (by simp; omega)]
  refine Split.mono (n:=n+d) ⟨_,_,syms_pad hK sx d d,syms_pad hK sy d d,by simp; omega,by simp; omega,?_,?_⟩ (by omega)
  ·rw [Nat.add_comm n d,pad_get (by simp) (by omega),pad_get (by simp) (by omega)]
   exact hne
  ·rw [img_wide hK _ (syms_pad hK sx d d),img_wide hK _ (syms_pad hK sy d d),mid,mid,e]
def Onto (K R:Nat) (T:List Int):Prop:=∀ y,Syms K y→∃ x,Syms K x∧x.length=y.length+2*R∧imgP K R T x=y
def behB (K N:Nat) (T:List Int) (l:List Bool) (s:Int):List Bool :=
 (List.range N).map fun v=>(List.range N).any fun u=>l.getD u false&&(List.range K).any fun c=>decide ((u*K+c)%N=v)&&decide (T.getD (u*K+c) 0=s)
theorem behB_len (K N:Nat) (T:List Int) (l:List Bool) (s:Int):(behB K N T l s).length=N:=by simp [behB]
theorem behB_iff {K N:Nat} {T:List Int} {l:List Bool} {s:Int} {v:Nat} (hv:v<N) :
 (behB K N T l s).getD v false=true↔∃ u,u<N∧l.getD u false=true∧∃ c,c<K∧(u*K+c)%N=v∧T.getD (u*K+c) 0=s:=by
 have e:(behB K N T l s).getD v false=(List.range N).any fun u=>l.getD u false&&(List.range K).any fun c=>decide ((u*K+c)%N=v)&&decide (T.getD (u*K+c) 0=s):=by
  unfold behB; simp [List.getD,hv]
 rw [e,List.any_eq_true]
 constructor
 ·rintro ⟨u,hu,h⟩
  rw [Bool.and_eq_true,List.any_eq_true] at h
  obtain ⟨h1,c,hc,h2⟩:=h
  rw [Bool.and_eq_true,decide_eq_true_iff,decide_eq_true_iff] at h2
  exact ⟨u,List.mem_range.1 hu,h1,c,List.mem_range.1 hc,h2.1,h2.2⟩
 ·rintro ⟨u,hu,h1,c,hc,h2,h3⟩
  refine ⟨u,List.mem_range.2 hu,?_⟩
  rw [Bool.and_eq_true,List.any_eq_true]
  refine ⟨h1,c,List.mem_range.2 hc,?_⟩
  rw [Bool.and_eq_true,decide_eq_true_iff,decide_eq_true_iff]
  exact ⟨h2,h3⟩
def reachB (K N:Nat) (T:List Int) (y:List Int):List Bool:=y.foldl (behB K N T) (List.replicate N true)
theorem snoc_indI {P:List Int→Prop} (h0:P []) (h1:∀ y s,P y→P (y++[s])) (y:List Int):P y:=by
 generalize hn:y.length=n
 induction n generalizing y with
 | zero=>rw [List.eq_nil_of_length_eq_zero hn]; exact h0
 | succ n ih =>
  have hne:y≠[]:=by intro e; subst e; simp at hn
  obtain ⟨b,x,rfl⟩:∃ b x,y=b++[x]:=⟨y.dropLast,y.getLast hne,(List.dropLast_concat_getLast hne).symm⟩
  exact h1 _ _ (ih b (by simpa using hn))
theorem syms_snocI {K:Int} {y:List Int} {s:Int}:Syms K (y++[s])↔Syms K y∧0≤s∧s<K :=
 ⟨fun h=>⟨fun x hx=>h x (by simp [hx]),h s (by simp)⟩,fun h x hx=>by
   rcases List.mem_append.1 hx with hx | hx
   ·exact h.1 x hx
   ·simp at hx; subst hx; exact h.2⟩
theorem any_iff {l:List Bool} {N:Nat} (hl:l.length=N):l.any id=true↔∃ v,v<N∧l.getD v false=true:=by
 subst hl
 rw [List.any_eq_true]
 constructor
 ·rintro ⟨b,hb,h⟩
  obtain ⟨i,hi,rfl⟩:=List.getElem_of_mem hb
  exact ⟨i,hi,by simpa [List.getD,hi] using h⟩
 ·rintro ⟨v,hv,h⟩
  exact ⟨l[v],List.getElem_mem hv,by simpa [List.getD,hv] using h⟩
inductive SubR where
 | on (sets:List (List Bool)) (words:List (List Int))
 | orphan (w:List Int)
 | big
def subStep (K N:Nat) (T:List Int) (i t:Nat) (sets:List (List Bool)) (words:List (List Int)):SubR :=
 if (behB K N T (sets.getD i []) t).any id=false then .orphan (words.getD i []++[(t:Int)])
 else if behB K N T (sets.getD i []) t∈sets then .on sets words
 else if sets.length=4096 then .big
 else .on (sets++[behB K N T (sets.getD i []) t]) (words++[words.getD i []++[(t:Int)]])
def subRow (K N:Nat) (T:List Int) (i:Nat):Nat→Nat→List (List Bool)→List (List Int)→SubR
 | 0,_,sets,words=>.on sets words
 | m+1,t,sets,words=>match subStep K N T i t sets words with
  | .on a b=>subRow K N T i m (t+1) a b
  | r=>r
def subGo (K N:Nat) (T:List Int):Nat→Nat→List (List Bool)→List (List Int)→SubR
 | 0,_,sets,words=>.on sets words
 | f+1,i,sets,words=>if i<sets.length then match subRow K N T i K 0 sets words with
  | .on a b=>subGo K N T f (i+1) a b
  | r=>r
  else .on sets words
def subR (K N:Nat) (T:List Int):SubR:=subGo K N T 4097 0 [List.replicate N true] [[]]
structure SubInv (K N:Nat) (T:List Int) (i:Nat) (sets:List (List Bool)) (words:List (List Int)):Prop where
 ll:words.length=sets.length
 z0:0<sets.length
 z1:sets.getD 0 []=List.replicate N true
 z2:words.getD 0 []=[]
 eq:∀ j,j<sets.length→sets.getD j []=reachB K N T (words.getD j [])
 sy:∀ j,j<sets.length→Syms K (words.getD j [])
 ne:∀ j,j<sets.length→(sets.getD j []).any id=true
 mono:∀ j k,j≤k→k<sets.length→(words.getD j []).length≤(words.getD k []).length
 close:∀ j,j<i→∀ s,s<K→∃ k,k<sets.length∧sets.getD k []=behB K N T (sets.getD j []) (s:Nat)∧(words.getD k []).length≤(words.getD j []).length+1
 small:sets.length≤4096
structure SubMid (K N:Nat) (T:List Int) (i t:Nat) (sets:List (List Bool)) (words:List (List Int)):Prop extends SubInv K N T i sets words where
 il:i<sets.length
 top:∀ k,k<sets.length→(words.getD k []).length≤(words.getD i []).length+1
 part:∀ s,s<t→∃ k,k<sets.length∧sets.getD k []=behB K N T (sets.getD i []) (s:Nat)∧(words.getD k []).length≤(words.getD i []).length+1
theorem getD_leftS {α:Type} {l m:List α} {j:Nat} {d:α} (h:j<l.length):(l++m).getD j d=l.getD j d:=by
 simp [List.getD,List.getElem?_append_left h]
theorem getD_end {α:Type} {l:List α} {x d:α}:(l++[x]).getD l.length d=x:=by simp [List.getD]
theorem SubInv.mid {K N i:Nat} {T:List Int} {sets:List (List Bool)} {words:List (List Int)} (h:SubInv K N T i sets words) (hi:i<sets.length) (ht:∀ k,k<sets.length→(words.getD k []).length≤(words.getD i []).length+1):SubMid K N T i 0 sets words :=
 ⟨h,hi,ht,fun _ hs=>absurd hs (Nat.not_lt_zero _)⟩
def bitsN:List Bool→Nat
 | []=>0
 | b::l=>b.toNat+2*bitsN l
theorem bitsN_testBit:∀ (l:List Bool) (i:Nat),(bitsN l).testBit i=l.getD i false
 | [],i=>by simp [bitsN]
 | b::l,0=>by
  unfold bitsN
  rw [Nat.testBit_zero]
  cases b<;>simp
 | b::l,i+1=>by
  unfold bitsN
  rw [Nat.testBit_succ,show (b.toNat+2*bitsN l)/2=bitsN l by cases b<;>simp<;>omega,bitsN_testBit l i]
  simp
theorem bitsN_lt:∀ (l:List Bool),bitsN l<2 ^ l.length
 | []=>by simp [bitsN]
 | b::l=>by
  have:=bitsN_lt l
  unfold bitsN
  rw [List.length_cons,Nat.pow_succ]
  have:b.toNat≤1:=Bool.toNat_le b
  omega
theorem bitsN_zero (n:Nat):bitsN (List.replicate n false)=0:=by
 induction n with
 | zero=>rfl
 | succ n ih=>rw [List.replicate_succ]; simp [bitsN,ih]
def wordB (l:List Bool) (w:Nat):Nat:=bitsN ((l.drop (64*w)).take 64)
def wordsB (l:List Bool):List Nat:=(List.range ((l.length+63)/64)).map (wordB l)
theorem wordsB_len (l:List Bool):(wordsB l).length=(l.length+63)/64:=by simp [wordsB]
theorem wordsB_get {l:List Bool} {w:Nat} (h:w<(l.length+63)/64):(wordsB l).getD w 0=wordB l w:=by simp [wordsB,List.getD,h]
theorem wordB_lt (l:List Bool) (w:Nat):wordB l w<2 ^ 64:=by
 refine Nat.lt_of_lt_of_le (bitsN_lt _) (Nat.pow_le_pow_right (by decide) ?_)
 rw [List.length_take]; omega
theorem wordB_testBit {l:List Bool} {w j:Nat} (hj:j<64):(wordB l w).testBit j=l.getD (64*w+j) false:=by
 unfold wordB
 rw [bitsN_testBit,List.getD_eq_getElem?_getD,List.getD_eq_getElem?_getD,List.getElem?_take,if_pos hj,List.getElem?_drop]
theorem wordB_set {l:List Bool} {x:Nat} (h:x<l.length) (w:Nat):wordB (l.set x true) w=if w=x/64 then wordB l w ||| 2 ^ (x%64) else wordB l w:=by
 refine Nat.eq_of_testBit_eq fun j=>?_
 by_cases hj:j<64
 ·rw [wordB_testBit hj]
  split
  ·rename_i e
   rw [Nat.testBit_or,wordB_testBit hj,Nat.testBit_two_pow]
   by_cases e2:x=64*w+j
   ·have e3:x%64=j:=by omega
    rw [← e2]
    simp [List.getD,h,e3]
   ·have e3:¬ x%64=j:=by omega
    simp [List.getD,List.getElem?_set_ne e2,e3]
  ·rename_i e
   rw [wordB_testBit hj]
   have e2:x≠64*w+j:=by omega
   simp [List.getD,List.getElem?_set_ne e2]
 ·have big:∀ m,m<2 ^ 64→m.testBit j=false:=fun m hm=>Nat.testBit_lt_two_pow (Nat.lt_of_lt_of_le hm (Nat.pow_le_pow_right (by decide) (by omega)))
  rw [big _ (wordB_lt _ _)]
  split
  ·rw [Nat.testBit_or,big _ (wordB_lt _ _),Nat.testBit_two_pow]
   have:¬ x%64=j:=by omega
   simp [this]
  ·rw [big _ (wordB_lt _ _)]
theorem wordsB_set {l:List Bool} {x:Nat} (h:x<l.length):wordsB (l.set x true)=(wordsB l).set (x/64) (wordB l (x/64) ||| 2 ^ (x%64)):=by
 refine List.ext_getElem (by simp [wordsB_len]) fun i h1 h2=>?_
 rw [List.getElem_set]
 simp only [wordsB,List.getElem_map,List.getElem_range]
 rw [wordB_set h]
 by_cases e:i=x/64
 ·subst e; simp
 ·rw [if_neg e,if_neg (fun q=>e q.symm)]
theorem wordsB_zero (n:Nat):wordsB (List.replicate n false)=List.replicate ((n+63)/64) 0:=by
 unfold wordsB
 refine List.ext_getElem (by simp) fun i h1 h2=>?_
 simp only [List.getElem_map,List.getElem_range,List.getElem_replicate]
 unfold wordB
 rw [List.drop_replicate,List.take_replicate]
 exact bitsN_zero _
def bytesW (w:Nat):List Nat:=(List.range 8).map fun i=>w/256 ^ i%256
theorem bytesW_len (w:Nat):(bytesW w).length=8:=by simp [bytesW]
theorem bytesW_testBit {w i b:Nat} (hb:b<8):(w/256 ^ i%256).testBit b=w.testBit (8*i+b):=by
 rw [show (256:Nat)=2 ^ 8 from rfl,← Nat.pow_mul,Nat.testBit_mod_two_pow,Nat.testBit_div_two_pow]
 simp [hb,Nat.add_comm]
theorem bytesW_inj {w v:Nat} (hw:w<2 ^ 64) (hv:v<2 ^ 64) (h:bytesW w=bytesW v):w=v:=by
 refine Nat.eq_of_testBit_eq fun j=>?_
 by_cases hj:j<64
 ·have hi:j/8<8:=by omega
  have e:=congrArg (fun l:List Nat=>l.getD (j/8) 0) h
  simp only [bytesW,List.getD_eq_getElem?_getD,List.getElem?_map,List.getElem?_range hi,Option.map_some,Option.getD_some] at e
  have e2:=congrArg (fun m:Nat=>m.testBit (j%8)) e
  rw [bytesW_testBit (Nat.mod_lt _ (by decide)),bytesW_testBit (Nat.mod_lt _ (by decide)),Nat.div_add_mod] at e2
  exact e2
 ·have big:∀ m,m<2 ^ 64→m.testBit j=false:=fun m hm=>Nat.testBit_lt_two_pow (Nat.lt_of_lt_of_le hm (Nat.pow_le_pow_right (by decide) (by omega)))
  rw [big _ hw,big _ hv]
def keyB (ws:List Nat):List Nat:=ws.flatMap bytesW
theorem keyB_inj:∀ {ws vs:List Nat},(∀ w∈ws,w<2 ^ 64)→(∀ w∈vs,w<2 ^ 64)→ws.length=vs.length→keyB ws=keyB vs→ws=vs
 | [],[],_,_,_,_=>rfl
 | w::ws,v::vs,hw,hv,hl,h=>by
  unfold keyB at h
  rw [List.flatMap_cons,List.flatMap_cons] at h
  obtain ⟨h1,h2⟩:=List.append_inj h (by rw [bytesW_len,bytesW_len])
  rw [bytesW_inj (hw w (by simp)) (hv v (by simp)) h1,keyB_inj (fun x hx=>hw x (by simp [hx])) (fun x hx=>hv x (by simp [hx])) (by simpa using hl) h2]
theorem wordsB_lt (l:List Bool):∀ w∈wordsB l,w<2 ^ 64:=fun w hw=>by
 obtain ⟨i,_,rfl⟩:=List.mem_map.1 hw
 exact wordB_lt _ _
theorem wordsB_inj {l m:List Bool} (hl:l.length=m.length) (h:wordsB l=wordsB m):l=m:=by
 refine List.ext_getElem hl fun i h1 h2=>?_
 have hi:i/64<(l.length+63)/64:=by omega
 have e:=congrArg (fun q:List Nat=>(q.getD (i/64) 0).testBit (i%64)) h
 rw [wordsB_get hi,wordsB_get (by omega),wordB_testBit (Nat.mod_lt _ (by decide)),wordB_testBit (Nat.mod_lt _ (by decide)),Nat.div_add_mod] at e
 simpa [List.getD,h1,h2] using e
theorem key_inj {l m:List Bool} (hl:l.length=m.length) (h:keyB (wordsB l)=keyB (wordsB m)):l=m :=
 wordsB_inj hl (keyB_inj (wordsB_lt l) (wordsB_lt m) (by rw [wordsB_len,wordsB_len,hl]) h)
theorem bit_at (l:List Bool) (x:Nat):wordB l (x/64)/2 ^ (x%64) &&& 1=if l.getD x false=true then 1 else 0:=by
 have h:=wordB_testBit (l:=l) (w:=x/64) (j:=x%64) (Nat.mod_lt _ (by decide))
 rw [Nat.div_add_mod,Nat.testBit_eq_decide_div_mod_eq] at h
 rw [Nat.and_one_is_mod]
 cases hb:l.getD x false with
 | true =>
  rw [hb] at h
  rw [if_pos rfl]; exact of_decide_eq_true h
 | false =>
  rw [hb] at h
  have:=of_decide_eq_false h
  rw [if_neg (by decide)]; omega
theorem keyB_snoc (ws:List Nat) (w:Nat):keyB (ws++[w])=keyB ws++bytesW w:=by simp [keyB]
theorem bytesW_take (w i:Nat) (h:i<8):(bytesW w).take (i+1)=(bytesW w).take i++[w/256 ^ i%256]:=by
 rw [List.take_add_one]
 simp [bytesW,h]
theorem keyB_len (ws:List Nat):(keyB ws).length=8*ws.length:=by
 induction ws with
 | nil=>rfl
 | cons w ws ih=>unfold keyB at *; rw [List.flatMap_cons,List.length_append,bytesW_len,ih,List.length_cons]; omega
def memB (l:List Bool) (n:Nat):List Nat:=(List.range n).filter fun x=>l.getD x false
theorem memB_succ (l:List Bool) (n:Nat):memB l (n+1)=memB l n++if l.getD n false then [n] else []:=by
 unfold memB
 rw [List.range_succ,List.filter_append]
 congr 1
 by_cases h:l.getD n false=true
 ·rw [if_pos h,List.filter_cons,if_pos h]; rfl
 ·rw [if_neg h,List.filter_cons,if_neg h]; rfl
def setOf (n:Nat) (xs:List Nat):List Bool:=xs.foldl (fun l x=>l.set x true) (List.replicate n false)
theorem setOf_snoc (n:Nat) (xs:List Nat) (x:Nat):setOf n (xs++[x])=(setOf n xs).set x true:=by simp [setOf]
theorem setOf_len (n:Nat) (xs:List Nat):(setOf n xs).length=n:=by
 unfold setOf
 have key:∀ (xs:List Nat) (l:List Bool),(xs.foldl (fun l x=>l.set x true) l).length=l.length:=by
  intro xs
  induction xs with
  | nil=>intro l; rfl
  | cons x xs ih=>intro l; rw [List.foldl_cons,ih,List.length_set]
 rw [key,List.length_replicate]
theorem setOf_get {n:Nat} {xs:List Nat} {v:Nat} (hv:v<n):(setOf n xs).getD v false=decide (v∈xs):=by
 unfold setOf
 have key:∀ (xs:List Nat) (l:List Bool),l.length=n→(xs.foldl (fun l x=>l.set x true) l).getD v false=(l.getD v false||decide (v∈xs)):=by
  intro xs
  induction xs with
  | nil=>intro l _; simp
  | cons x xs ih =>
   intro l hl
   rw [List.foldl_cons,ih _ (by rw [List.length_set]; exact hl)]
   by_cases e:x=v
   ·subst e; simp [List.getD,hl,hv]
   ·have e2:¬ v=x:=fun q=>e q.symm
    simp [List.getD,List.getElem?_set_ne e,e2]
 rw [key _ _ (by simp)]
 simp [List.getD,hv]
theorem setOf_all (n:Nat):setOf n (List.range n)=List.replicate n true:=by
 refine List.ext_getElem (by rw [setOf_len,List.length_replicate]) fun i h1 h2=>?_
 rw [setOf_len] at h1
 have:=setOf_get (n:=n) (xs:=List.range n) h1
 rw [List.getD_eq_getElem?_getD,List.getElem?_eq_getElem (by rw [setOf_len]; exact h1),Option.getD_some] at this
 rw [this]; simp [h1]
def updM (M:Int→Option Int) (p x:Int):Int→Option Int:=fun q=>if q=p then some x else M q
def numM (p:Nat→Int):Nat→(Int→Option Int)×Nat
 | 0=>(fun _=>none,0)
 | k+1=>if ((numM p k).1 (p k)).isSome then numM p k else (updM (numM p k).1 (p k) ((numM p k).2:Int),(numM p k).2+1)
def numO (p:Nat→Int) (k:Nat):Int:=((numM p (k+1)).1 (p k)).getD 0
theorem numM_size (p:Nat→Int):∀ k,(numM p k).2≤k
 | 0=>Nat.le_refl _
 | k+1=>by
  have:=numM_size p k
  simp only [numM]; split<;>simp<;>omega
theorem numM_keep (p:Nat→Int) {q x:Int} (k:Nat) (h:(numM p k).1 q=some x):∀ d,(numM p (k+d)).1 q=some x
 | 0=>h
 | d+1=>by
  have ih:=numM_keep p k h d
  show (numM p (k+d+1)).1 q=some x
  simp only [numM]
  split
  ·exact ih
  ·next hn =>
   show updM _ _ _ q=some x
   unfold updM
   by_cases e:q=p (k+d)
   ·subst e; rw [ih] at hn; exact absurd rfl hn
   ·rw [if_neg e]; exact ih
theorem numM_own (p:Nat→Int) (k:Nat):(numM p (k+1)).1 (p k)=some (numO p k):=by
 unfold numO
 have:((numM p (k+1)).1 (p k)).isSome:=by
  simp only [numM]
  split
  ·next h=>exact h
  ·simp [updM]
 obtain ⟨x,hx⟩:=Option.isSome_iff_exists.1 this
 rw [hx]; rfl
theorem numM_below (p:Nat→Int):∀ k q x,(numM p k).1 q=some x→0≤x∧x<(numM p k).2
 | 0,q,x,h=>by cases h
 | k+1,q,x,h=>by
  have ih:=numM_below p k q x
  simp only [numM] at h ⊢
  split at h
  ·next hs=>rw [if_pos hs]; exact ih h
  ·next hs =>
   rw [if_neg hs]
   simp only [updM] at h ⊢
   by_cases e:q=p k
   ·rw [if_pos e] at h; injection h with h; omega
   ·rw [if_neg e] at h; have:=ih h; omega
theorem numM_inj (p:Nat→Int):∀ k q q' x,(numM p k).1 q=some x→(numM p k).1 q'=some x→q=q'
 | 0,q,q',x,h,_=>by cases h
 | k+1,q,q',x,h,h'=>by
  have ih:=numM_inj p k q q' x
  simp only [numM] at h h'
  split at h
  ·next hs=>rw [if_pos hs] at h'; exact ih h h'
  ·next hs =>
   rw [if_neg hs] at h'
   simp only [updM] at h h'
   by_cases e:q=p k<;>by_cases e':q'=p k
   ·rw [e,e']
   ·rw [if_pos e] at h; rw [if_neg e'] at h'
    have:=numM_below p k q' x h'
    injection h with h; omega
   ·rw [if_neg e] at h; rw [if_pos e'] at h'
    have:=numM_below p k q x h
    injection h' with h'; omega
   ·rw [if_neg e] at h; rw [if_neg e'] at h'; exact ih h h'
theorem numO_eq (p:Nat→Int) (i j:Nat):numO p i=numO p j↔p i=p j:=by
 have key:∀ i d,(numM p (i+1+d)).1 (p i)=some (numO p i):=fun i d=>numM_keep p (i+1) (numM_own p i) d
 have hi:=key i j
 have hj:=key j i
 rw [show j+1+i=i+1+j by omega] at hj
 constructor
 ·intro h; rw [h] at hi; exact numM_inj p _ _ _ _ hi hj
 ·intro h; rw [h] at hi; rw [hi] at hj; injection hj
def PartsOf (n:Nat) (adj:Nat→List Nat) (ps:List Int):Prop :=
 ∃ p:Nat→Int,(∀ x y,x<n→y<n→(p x=p y↔Goes adj x y∧Goes adj y x))∧ps=(List.range n).map (numO p)
theorem PartsOf.len {n:Nat} {adj:Nat→List Nat} {ps:List Int} (h:PartsOf n adj ps):ps.length=n:=by
 obtain ⟨p,_,rfl⟩:=h; simp
theorem PartsOf.eq {n:Nat} {adj:Nat→List Nat} {ps:List Int} (h:PartsOf n adj ps) {x y:Nat} (hx:x<n) (hy:y<n):ps.getD x 0=ps.getD y 0↔Goes adj x y∧Goes adj y x:=by
 obtain ⟨p,hp,rfl⟩:=h
 simp only [List.getD_eq_getElem?_getD,List.getElem?_map,List.getElem?_range hx,List.getElem?_range hy,Option.map_some,Option.getD_some]
 rw [numO_eq,hp x y hx hy]
open Go.RowKit Go.Maps Go.WideMaps
set_option maxRecDepth 100000
theorem uMapB:Tryz.prog.underlying 253=some (.map 9 3):=by kernel_rfl
theorem keyedB:Keyed Tryz.prog 9:=string_keyed uStr
theorem zeroB (w:World):(zeroValue 3).run Tryz.prog w=.ok (.int .i64 0) w:=by kernel_rfl
def heldB (v:Value):Option (DataW Value×List MemPlace):=some (.held v,[])
def numsK (ws:List Nat):List Int:=(keyB ws).map fun n:Nat=>(n:Int)
def txtK (ws:List Nat):ByteArray:=strOfNums (numsK ws)
def keyK (ws:List Nat):Lit:=.string (txtK ws).data.toList
theorem txtK_size (ws:List Nat):(txtK ws).size=8*ws.length:=by
 unfold txtK; rw [strOfNums_size]; unfold numsK; rw [List.length_map,keyB_len]
theorem keyK_of {ws:List Nat} (h:ws.length≤4096):keyOf Tryz.prog 9 (.string (txtK ws))=some (keyK ws):=keyOf_string_mk uStr (by rw [txtK_size]; unfold maxLen; omega)
theorem keyB_byte (ws:List Nat):∀ b∈keyB ws,b<256:=fun b hb=>by
 unfold keyB at hb
 obtain ⟨w,_,hb⟩:=List.mem_flatMap.1 hb
 unfold bytesW at hb
 obtain ⟨i,_,rfl⟩:=List.mem_map.1 hb
 exact Nat.mod_lt _ (by decide)
theorem keyK_inj {l m:List Bool} (hl:l.length=m.length) (h:keyK (wordsB l)=keyK (wordsB m)):l=m:=by
 have h2:(txtK (wordsB l)).data.toList=(txtK (wordsB m)).data.toList:=by injection h
 unfold txtK at h2
 rw [strOfNums_data,strOfNums_data] at h2
 unfold numsK at h2
 rw [List.map_map,List.map_map] at h2
 have key:∀ (a b:List Nat),(∀ x∈a,x<256)→(∀ x∈b,x<256)→a.map ((fun n:Int=>UInt8.ofNat n.toNat) ∘ fun n:Nat=>(n:Int))=b.map ((fun n:Int=>UInt8.ofNat n.toNat) ∘ fun n:Nat=>(n:Int))→a=b:=by
  intro a
  induction a with
  | nil =>
   intro b _ _ h
   cases b with
   | nil=>rfl
   | cons _ _=>simp at h
  | cons p a ih =>
   intro b ha hb h
   cases b with
   | nil=>simp at h
   | cons q b =>
    rw [List.map_cons,List.map_cons] at h
    injection h with h1 h2
    have e1:=ha p List.mem_cons_self
    have e2:=hb q List.mem_cons_self
    have:p=q:=by
     have h3:=congrArg UInt8.toNat h1
     simp only [Function.comp,UInt8.toNat_ofNat',Int.toNat_natCast] at h3
     omega
    rw [this,ih b (fun z hz=>ha z (List.mem_cons_of_mem _ hz)) (fun z hz=>hb z (List.mem_cons_of_mem _ hz)) h2]
 exact key_inj hl (key _ _ (keyB_byte _) (keyB_byte _) h2)
def BagMap (w:World) (b n:Nat) (sets:List (List Bool)):Prop :=
 ∃ D:DataW Value,w.ownsMap Tryz.prog 9 heldB b sets.length D∧(∀ y,y.length=n→(Maps.has D (keyK (wordsB y))=true↔y∈sets))∧∀ i,i<sets.length→D.atKey (keyK (wordsB (sets.getD i []))) (.held (.int .i64 0))=.held (.int .i64 (i:Nat))
theorem BagMap.made (w:World) (n:Nat):BagMap (w.alloc (.map #[] 0)) w.heap.size n [] :=
 ⟨_,World.ownsMap_made w Tryz.prog 9 _,fun y _=>⟨fun h=>(by cases h),fun h=>(by cases h)⟩,fun i hi=>absurd hi (Nat.not_lt_zero _)⟩
section
variable {w:World} {b n:Nat} {sets:List (List Bool)}
theorem BagMap.blk (h:BagMap w b n sets):∃ es c,w.heap[b]?=some (.map es c):=by
 obtain ⟨D,⟨es,c,hb,_⟩,_⟩:=h
 exact ⟨es,c,hb⟩
theorem BagMap.lt (h:BagMap w b n sets):b<w.heap.size:=by
 obtain ⟨D,h1,_⟩:=h
 exact h1.lt
theorem BagMap.below {w':World} (h:BagMap w b n sets) (hb:Below w.heap.size w w'):BagMap w' b n sets:=by
 obtain ⟨D,h1,h2⟩:=h
 refine ⟨D,?_,h2⟩
 have hlt:=h1.lt
 obtain ⟨es,clock,hb',F,hs,hD⟩:=h1
 exact ⟨es,clock,(hb.block b hlt).trans hb',F,hs,hD⟩
theorem BagMap.kept {w':World} {row:Option Nat} (h:BagMap w b n sets) (hg:w.grownBy w' row) (hne:some b≠row):BagMap w' b n sets:=by
 obtain ⟨D,h1,h2⟩:=h
 exact ⟨D,h1.kept hg hne,h2⟩
theorem BagMap.hit (h:BagMap w b n sets) {y:List Bool} (hm:y∈sets) (hl:y.length=n) (hn:n≤4096) :
 (Instr.lookup 253 (.map (some b)) (.string (txtK (wordsB y))) true).run Tryz.prog w=.ok (.tuple #[.int .i64 (sets.idxOf y:Nat),.bool true]) w:=by
 obtain ⟨D,h1,h2,h3⟩:=h
 have hk:=List.idxOf_lt_length_of_mem hm
 have e0:sets.getD (sets.idxOf y) []=y:=by
  rw [List.getD_eq_getElem?_getD,List.getElem?_eq_getElem hk,Option.getD_some]
  exact List.getElem_idxOf hk
 have h4:=h3 _ hk
 rw [e0] at h4
 obtain ⟨v,ps,hr,hv⟩:=h1.look_ok keyedB uMapB (zeroB w) (zd:=.held (.int .i64 0)) (zp:=[]) rfl (keyK_of (ws:=wordsB y) (by rw [wordsB_len]; omega))
 rw [h4] at hv
 unfold heldB at hv
 have e1:=Option.some.inj hv
 have e2:DataW.held v=DataW.held (Value.int .i64 (sets.idxOf y:Nat)):=congrArg Prod.fst e1
 have e:v=Value.int .i64 (sets.idxOf y:Nat):=by injection e2
 rw [hr,e,(h2 _ hl).2 hm]
theorem BagMap.miss (h:BagMap w b n sets) {y:List Bool} (hm:y∉sets) (hl:y.length=n) (hn:n≤4096) :
 ∃ v,(Instr.lookup 253 (.map (some b)) (.string (txtK (wordsB y))) true).run Tryz.prog w=.ok (.tuple #[v,.bool false]) w:=by
 obtain ⟨D,h1,h2,h3⟩:=h
 obtain ⟨v,ps,hr,hv⟩:=h1.look_ok keyedB uMapB (zeroB w) (zd:=.held (.int .i64 0)) (zp:=[]) rfl (keyK_of (ws:=wordsB y) (by rw [wordsB_len]; omega))
 have:Maps.has D (keyK (wordsB y))=false:=by
  cases hh:Maps.has D (keyK (wordsB y)) with
  | false=>rfl
  | true=>exact absurd ((h2 y hl).1 hh) hm
 exact ⟨v,by rw [hr,this]⟩
theorem BagMap.store (h:BagMap w b n sets) {y:List Bool} (hm:y∉sets) (hl:y.length=n) (hn:n≤4096) (hall:∀ x∈sets,x.length=n) (hj:sets.length<100000) :
 ∃ w',(Instr.mapUpdate 253 (.map (some b)) (.string (txtK (wordsB y))) (.int .i64 (sets.length:Nat))).run Tryz.prog w=.ok () w'∧BagMap w' b n (sets++[y])∧w.grownBy w' (some b):=by
 obtain ⟨D,h1,h2,h3⟩:=h
 have hI:=h1.isMap
 have hkey:=keyK_of (ws:=wordsB y) (by rw [wordsB_len]; omega)
 obtain ⟨w',hr,ho,hg⟩:=h1.update keyedB uMapB (by unfold maxLen; omega) hkey (val:=.int .i64 (sets.length:Nat)) (d:=.held (.int .i64 (sets.length:Nat))) (ps:=[]) rfl
 have hkl:WideAt.IsKeyLit (keyK (wordsB y)):=keyedB.key hkey
 refine ⟨w',hr,⟨_,by rw [List.length_append,List.length_singleton]; exact ho,fun z hz=>?_,fun i hi=>?_⟩,hg⟩
 ·by_cases e:z=y
  ·subst e
   exact ⟨fun _=>by simp,fun _=>Maps.has_put_same hI hkl _⟩
  ·have hne:keyK (wordsB z)≠keyK (wordsB y):=fun h=>e (keyK_inj (by rw [hz,hl]) h)
   rw [Maps.has_put_other hne,h2 z hz]
   simp [e]
 ·rw [List.length_append,List.length_singleton] at hi
  by_cases e:i=sets.length
  ·subst e
   have e2:(sets++[y]).getD sets.length []=y:=by simp [List.getD]
   rw [e2,Maps.atKey_put_same hI hkl]
  ·have hi2:i<sets.length:=by omega
   have e2:(sets++[y]).getD i []=sets.getD i []:=by simp [List.getD,List.getElem?_append_left hi2]
   have hmem:sets.getD i []∈sets:=by
    rw [List.getD_eq_getElem?_getD,List.getElem?_eq_getElem hi2,Option.getD_some]
    exact List.getElem_mem hi2
   have hne:keyK (wordsB (sets.getD i []))≠keyK (wordsB y):=fun h=>hm (keyK_inj (by rw [hall _ hmem,hl]) h▸hmem)
   rw [e2,Maps.atKey_put_other hne]
   exact h3 i hi2
end
theorem Rows.mapB {B:Nat} {w w':World} {f:Names} {b:Nat} {es:Array MapEntry} {c:Nat} (h:Rows B w f) (hb:w.heap[b]?=some (.map es c)) (hg:w.grownBy w' (some b)):Rows B w' f :=
 ⟨fun i r hi=>(by
   have ho:=h.1 i r hi
   refine World.ownsRow.kept ho hg ?_
   rcases ho.2 with ⟨e,_⟩ | ⟨g,cap,cur,e,_,hh,_⟩
   ·left; rw [e]; rfl
   ·right; rw [e]; intro q
    have:g=b:=by injection q
    subst this; rw [hh] at hb; cases hb),h.2⟩
end Go.Proofs.YtkaoebokbfcmhaaGreatDoor
namespace Go.Proofs.YtkaoebokbfcmhaaGreatDoor
open Go.RowKit
set_option maxRecDepth 100000
set_option maxHeartbeats 8000000
theorem oneWords:OneCell 257 50 (.int .u64 0) 8:=⟨by kernel_rfl,by kernel_rfl,rfl,by decide,fun _=>by kernel_rfl⟩
theorem take_snocN (l:List Nat) (i:Nat) (h:i<l.length):l.take (i+1)=l.take i++[l[i]]:=by
 rw [List.take_add_one]; simp [h]
def wordsV (ws:List Nat):List Value:=ws.map fun n:Nat=>Value.int .u64 (n:Int)
def byteN (ns:List Nat):List Value:=ns.map fun n:Nat=>Value.int .u8 (n:Int)
theorem wordsV_len (ws:List Nat):(wordsV ws).length=ws.length:=by simp [wordsV]
theorem byteN_snoc (ns:List Nat) (n:Nat):byteN (ns++[n])=byteN ns++[.int .u8 (n:Int)]:=by simp [byteN]
theorem conv_key (B:Nat) (w:World) (v:Value) (ws:List Nat) (h:OwnV 5 B w v (byteN (keyB ws))) (h1:1≤ws.length):(convert 283 9 v).run Tryz.prog w=.ok (.string (txtK ws)) w:=by
 have hl:(byteN (keyB ws)).length=(numsK ws).length:=by simp [byteN,numsK]
 have hp:(numsK ws).length=8*ws.length:=by unfold numsK; rw [List.length_map,keyB_len]
 rcases h.2 with ⟨rfl,hn⟩ | ⟨g,cap,cur,rfl,hb,hg,hn,hm,hs,ht⟩
 ·omega
 ·refine run_convert_bytes_arg (P:=Tryz.prog) w 283 5 oneBytes.ht uByte g 0 (byteN (keyB ws)).length cap (numsK ws) hl.symm (fun i hi=>?_) 9 uStr
  have:=h.at.cell i hi
  rw [valAt_row] at this
  rw [Nat.zero_add,this]
  have hi2:i<(keyB ws).length:=by rw [hl] at hi; unfold numsK at hi; rwa [List.length_map] at hi
  simp [byteN,numsK,List.getD,hi2]
theorem bag_key (v:Value) (ws:List Nat) (w:World) (h:ValsAt w v (wordsV ws)) (h1:1≤ws.length) (hl:ws.length≤64) (hw:∀ x∈ws,x<2 ^ 64) :
 Calls Tryz.prog 191 #[v] w (Ret1 (fun x _=>x=.string (txtK ws)) w):=by
 obtain ⟨va,vn,vc,rfl⟩:∃ a n c,v=.slice a n c:=(by obtain ⟨a,c,e,_⟩:=h; exact ⟨a,_,c,e⟩)
 have l1:=h.len oneWords
 rw [wordsV_len] at l1
 replace h:=Hd h
 replace hw:=Hd hw
 go_enter Tryz.func191,Tryz.ntmps191
 go_wp2_with (at_make; refine wpl_makeV0 oneBytes rfl _ _ rfl (8*ws.length) rfl (by go_num) (by omega) ?_)
 intro bv w2 ho2 b2
 replace ho2:=Hd ho2
 go_wp2_with fail
 go_loopw [3,12] (fun ov iv wr=>∃ (i:Nat) (ow:Value),ow=ov∧iv=.int .i64 i∧i≤ws.length∧OwnV 5 w.heap.size wr ow (byteN (keyB (ws.take i)))∧Below w.heap.size w wr) (fun _ iv _=>ws.length-(intOf iv).toNat)
 case atStart=>exact ⟨0,_,rfl,rfl,Nat.zero_le _,ho2.out,b2⟩
 case round =>
  obtain ⟨i,ow,rfl,rfl,hi,hO,hB⟩:=hrel
  obtain ⟨wo,rfl⟩:∃ wo:World,wo=wr:=⟨_,rfl⟩
  by_cases hil:i<ws.length
  ·have di:decide ((i:Int)<(ws.length:Int))=true:=decide_eq_true (by omega)
   have hv:=h.out.below hB
   have iX:=fun w'=>hv.idx oneWords i (by rw [wordsV_len]; exact hil) w'
   have cX:=hv.cell i (by rw [wordsV_len]; exact hil)
   have ex:(wordsV ws)[i]'(by rw [wordsV_len]; exact hil)=.int .u64 ((ws[i]:Nat):Int):=by simp [wordsV]
   rw [ex] at cX
   have hxb:=hw.out ws[i] (List.getElem_mem hil)
   have htk:keyB (ws.take (i+1))=keyB (ws.take i)++bytesW ws[i]:=by
    rw [take_snocN ws i hil,keyB_snoc]
   obtain ⟨x,hx⟩:∃ x,ws[i]=x:=⟨_,rfl⟩
   rw [hx] at cX hxb htk
   obtain ⟨xa,hxa⟩:∃ xa,valAt (.slice va vn vc) i=xa:=⟨_,rfl⟩
   rw [hxa] at iX cX
   have hlt:(keyB (ws.take i)).length≤512:=by rw [keyB_len,List.length_take]; omega
   obtain ⟨ns,hns⟩:∃ ns,keyB (ws.take i)=ns:=⟨_,rfl⟩
   rw [hns] at htk hO hlt
   replace hx:=Hd hx
   replace hxa:=Hd hxa
   replace hv:=Hd hv
   replace htk:=Hd htk
   replace hns:=Hd hns
   replace hxb:=Hd hxb
   replace hO:=Hd hO
   clear ex
   go_wp2
   go_loopw [3,5,16] (fun ov cv jv wr=>∃ (j c:Nat) (ow:Value),ow=ov∧cv=.int .u64 (c:Int)∧jv=.int .i64 j∧j≤8∧c=x/256 ^ j∧OwnV 5 w.heap.size wr ow (byteN (ns++(bytesW x).take j))∧Below w.heap.size w wr) (fun _ _ jv _=>8-(intOf jv).toNat)
   case atStart=>exact ⟨0,x,_,rfl,rfl,rfl,by omega,by simp,by simpa using hO.out,hB⟩
   case round =>
    obtain ⟨j,c,pw,rfl,rfl,rfl,hj,hc,hP,hBj⟩:=hrel
    obtain ⟨wj,rfl⟩:∃ wj:World,wj=wr:=⟨_,rfl⟩
    by_cases hjl:j<8
    ·have dj:decide ((j:Int)<8)=true:=decide_eq_true (by omega)
     have hBs:=hBj.size
     have hcb:c<2 ^ 64:=by rw [hc]; exact Nat.lt_of_le_of_lt (Nat.div_le_self _ _) hxb.out
     have hse:byteN (ns++(bytesW x).take (j+1))=byteN (ns++(bytesW x).take j)++[.int .u8 ((c%256:Nat):Int)]:=by
      rw [bytesW_take x j hjl,← List.append_assoc,byteN_snoc,hc]
     have hlm:(byteN (ns++(bytesW x).take j)).length<4398046511104:=by
      simp [byteN,bytesW_len]; omega
     have wr8:IntKind.u8.wrap (c:Int)=((c%256:Nat):Int):=by simp [IntKind.wrap,IntKind.signed,IntKind.bits]
     have hdv:(c:Int)/256=((c/256:Nat):Int):=by omega
     have hc2:c/256=x/256 ^ (j+1):=by rw [hc,Nat.div_div_eq_div_mul,Nat.pow_succ]
     obtain ⟨m,hm⟩:∃ m,c%256=m:=⟨_,rfl⟩
     rw [hm] at wr8 hse
     obtain ⟨d,hd⟩:∃ d,c/256=d:=⟨_,rfl⟩
     rw [hd] at hdv hc2
     replace hm:=Hd hm
     replace hd:=Hd hd
     replace hc:=Hd hc
     replace hc2:=Hd hc2
     replace hse:=Hd hse
     go_wp2_with (at_builtin; go_loud (refine wpl_appV oneBytes rfl _ _ rfl w.heap.size pw _ (.int .u8 (m:Int)) rfl hP rfl rfl hlm hBs ?_))
     intro v' w7 ho7 b7
     rw [← hse.out] at ho7
     replace ho7:=Hd ho7
     clear hP
     go_wp2
     go_roundw
     case measure=>simp [intOf]; omega
     case rel=>exact ⟨j+1,d,_,rfl,by simp,by go_num,by omega,hc2.out,ho7.out,hBj.trans b7⟩
    ·obtain rfl:j=8:=by omega
     have e8:(bytesW x).take 8=bytesW x:=List.take_of_length_le (by rw [bytesW_len]; exact Nat.le_refl _)
     rw [e8,← htk.out] at hP
     replace hP:=Hd hP
     have dj:decide (((8:Nat):Int)<8)=false:=by decide
     go_wp2
     go_roundw
     case measure=>simp [intOf]; omega
     case rel=>exact ⟨i+1,_,rfl,by go_num,by omega,hP.out,hBj⟩
  ·have di:decide ((i:Int)<(ws.length:Int))=false:=decide_eq_false (by omega)
   obtain rfl:i=ws.length:=by omega
   rw [List.take_length] at hO
   have hc:=conv_key w.heap.size wo ow ws hO h1
   obtain ⟨oa,on,oc,rfl⟩:=hO.shape
   replace hO:=Hd hO
   go_wp2
   go_ret
   exact ⟨_,rfl,hB,rfl⟩
def natI (xs:List Nat):List Int:=xs.map fun n:Nat=>(n:Int)
theorem natI_len (xs:List Nat):(natI xs).length=xs.length:=by simp [natI]
theorem natI_at {xs:List Nat} {i:Nat} (h:i<xs.length):(natI xs).getD i 0=((xs[i]:Nat):Int):=by simp [natI,List.getD,h]
theorem wordsV_set (ws:List Nat) (k x:Nat):(wordsV ws).set k (.int .u64 (x:Int))=wordsV (ws.set k x):=by simp [wordsV,List.map_set]
theorem wordsV_zero (n:Nat):wordsV (List.replicate n 0)=List.replicate n (.int .u64 0):=by simp [wordsV]
theorem or_bit {m j:Nat} (hm:m<2 ^ 64) (hj:j<64):bits BinOp.or IntKind.u64 (m:Int) (IntKind.u64.wrap (2 ^ j))=((m ||| 2 ^ j:Nat):Int):=by
 have hp:2 ^ j<2 ^ 64:=Nat.pow_lt_pow_right (by decide) hj
 have e:IntKind.u64.wrap (2 ^ j)=((2 ^ j:Nat):Int):=by
  have e1:((2:Int) ^ j)=((2 ^ j:Nat):Int):=by norm_cast
  rw [e1]
  simp only [IntKind.wrap,IntKind.signed,IntKind.bits]
  generalize 2 ^ j=a at hp
  simp; omega
 rw [e]
 exact bits_or_u64_nat m (2 ^ j) hm hp
theorem bag_bits (n g:Nat) (v:Value) (xs:List Nat) (w:World) (c0:w.cell? ⟨g,0,none⟩=some (.int .i64 n)) (h:IntsAt w v (natI xs)) (hx:∀ x∈xs,x<n) (hxl:xs.length≤100000) (h1:1≤n) (hn:n≤4096) :
 Calls Tryz.prog 177 #[.pointer (some ⟨g,0,none⟩),v] w (Ret2 (fun x y w'=>y=.nilIface∧OwnV 50 w.heap.size w' x (wordsV (wordsB (setOf n xs)))) w):=by
 have l1:=h.len
 rw [natI_len] at l1
 obtain ⟨va,vn,vc,rfl⟩:=h.shape
 have hg:=World.block_lt_of_cell? _ _ c0
 replace h:=Hd h
 replace hx:=Hd hx
 obtain ⟨q,hq⟩:∃ q,(n+63)/64=q:=⟨_,rfl⟩
 have eq0:((n:Int)+63)/64=(q:Int):=by omega
 have hq64:q≤64:=by omega
 replace hq:=Hd hq
 go_enter Tryz.func177,Tryz.ntmps177
 go_wp2_with (at_make; refine wpl_makeV oneWords rfl _ _ rfl (((n:Int)+63)/64) rfl rfl (by omega) (by omega) ?_)
 intro sv w1 ho1 g1
 have b1:Below w.heap.size w w1:=(Below.refl _ _).grown g1 (Nat.le_refl _) (by intro k hk; cases hk)
 rw [← wordsV_zero,← hq.out,← wordsB_zero] at ho1
 obtain ⟨sa,sn,sc,rfl⟩:=ho1.shape
 replace ho1:=Hd ho1
 go_wp2_with fail
 go_loopw [21] (fun iv wr=>∃ i:Nat,iv=.int .i64 i∧i≤xs.length∧OwnV 50 w.heap.size wr (.slice sa sn sc) (wordsV (wordsB (setOf n (xs.take i))))∧Below w.heap.size w wr) (fun iv _=>xs.length-(intOf iv).toNat)
 case atStart=>exact ⟨0,rfl,Nat.zero_le _,by simpa [setOf] using ho1.out,b1⟩
 case round =>
  obtain ⟨i,rfl,hi,hO,hB⟩:=hrel
  obtain ⟨wo,rfl⟩:∃ wo:World,wo=wr:=⟨_,rfl⟩
  have hgB:=hB.size
  have e0:wo.cell? ⟨g,0,none⟩=some (.int .i64 n):=by rw [hB.cell hg]; exact c0
  by_cases hil:i<xs.length
  ·have di:decide ((i:Int)<(xs.length:Int))=true:=decide_eq_true (by omega)
   have hv:=h.out.below hB
   have iX:=fun w'=>hv.idx i (by rw [natI_len]; exact hil) w'
   have cX:=hv.cellD i (by rw [natI_len]; exact hil)
   rw [natI_at hil] at cX
   have hxn:=hx.out xs[i] (List.getElem_mem hil)
   have htk:setOf n (xs.take (i+1))=(setOf n (xs.take i)).set xs[i] true:=by rw [take_snocN xs i hil,setOf_snoc]
   obtain ⟨x,hxx⟩:∃ x,xs[i]=x:=⟨_,rfl⟩
   rw [hxx] at cX hxn htk
   obtain ⟨xa,hxa⟩:∃ xa,valAt (.slice va vn vc) i=xa:=⟨_,rfl⟩
   rw [hxa] at iX cX
   obtain ⟨l,hl⟩:∃ l,setOf n (xs.take i)=l:=⟨_,rfl⟩
   have hll:l.length=n:=by rw [← hl,setOf_len]
   rw [hl] at htk hO
   have hxll:x<l.length:=by omega
   have hws:wordsV (wordsB (l.set x true))=(wordsV (wordsB l)).set (x/64) (.int .u64 ((wordB l (x/64) ||| 2 ^ (x%64):Nat):Int)):=by rw [wordsB_set hxll,wordsV_set]
   have hk:x/64<(wordsV (wordsB l)).length:=by rw [wordsV_len,wordsB_len]; omega
   have iS:∀ w',(Instr.indexAt 257 (.slice sa sn sc) (.int .i64 ((x:Int)/64))).run Tryz.prog w'=.ok (.pointer (some (valAt (.slice sa sn sc) (x/64)))) w':=by
    intro w'
    have:=hO.at.idx oneWords (x/64) hk w'
    rwa [show ((x/64:Nat):Int)=(x:Int)/64 by omega] at this
   have cS:=hO.at.cell (x/64) hk
   have eS:(wordsV (wordsB l))[x/64]=.int .u64 ((wordB l (x/64):Nat):Int):=by simp [wordsV,wordsB]
   rw [eS] at cS
   have fS:=hO.frz (x/64) hk
   have hO2:=hO.set (x/64) hk (.int .u64 ((wordB l (x/64) ||| 2 ^ (x%64):Nat):Int))
   rw [← hws,← htk] at hO2
   have hB2:=hB.setCell (hO.blkB (x/64) hk).2 (.int .u64 ((wordB l (x/64) ||| 2 ^ (x%64):Nat):Int))
   have dl:decide ((x:Int)<0)=false:=decide_eq_false (by omega)
   have dh:decide ((x:Int)≥(n:Int))=false:=decide_eq_false (by omega)
   have m0:(0:Int)≤(x:Int)%64:=by omega
   have m1:(x:Int)%64≤64:=by omega
   have hwl:=wordB_lt l (x/64)
   obtain ⟨m,hm⟩:∃ m,wordB l (x/64)=m:=⟨_,rfl⟩
   rw [hm] at cS hO2 hB2 hwl
   obtain ⟨aS,haS⟩:∃ aS,valAt (.slice sa sn sc) (x/64)=aS:=⟨_,rfl⟩
   rw [haS] at iS cS fS hO2 hB2
   replace hxx:=Hd hxx
   replace hxa:=Hd hxa
   replace hv:=Hd hv
   replace htk:=Hd htk
   replace hl:=Hd hl
   replace hws:=Hd hws
   replace hm:=Hd hm
   replace haS:=Hd haS
   replace hO2:=Hd hO2
   replace hB2:=Hd hB2
   replace hB:=Hd hB
   clear hO eS hk
   go_wp2
   go_region
   all_goals
    go_wp2
    go_roundw
    case measure=>simp [intOf]; omega
    case rel =>
     have eb:bits BinOp.or IntKind.u64 (m:Int) (IntKind.u64.wrap (2 ^ (x%64)))=((m ||| 2 ^ (x%64):Nat):Int):=or_bit hwl (Nat.mod_lt _ (by decide))
     rw [eb]
     exact ⟨i+1,by go_num,by omega,hO2.out.drew,hB2.out.drew⟩
  ·have di:decide ((i:Int)<(xs.length:Int))=false:=decide_eq_false (by omega)
   obtain rfl:i=xs.length:=by omega
   rw [List.take_length] at hO
   replace hO:=Hd hO
   go_wp2
   go_ret2
   exact ⟨_,_,rfl,hB,rfl,hO.out⟩
theorem oneSets:OneCell 254 257 (.slice none 0 0) 24:=⟨by kernel_rfl,by kernel_rfl,rfl,by decide,fun _=>by kernel_rfl⟩
theorem bag_set (g id:Nat) (at_:Int) (sv:Value) (svs:List Value) (w:World) (c1:w.cell? ⟨g,1,none⟩=some sv) (h:ValsAt w sv svs) (hid:id<svs.length) :
 Calls Tryz.prog 192 #[.pointer (some ⟨g,0,none⟩),.int .i64 id,.int .i64 at_] w (Ret2 (fun x y w'=>x=svs[id]∧y=.nilIface∧w'=w) w):=by
 have l1:=h.len oneSets
 have iX:=fun w'=>h.idx oneSets id hid w'
 have cX:=h.cell id hid
 obtain ⟨va,vn,vc,rfl⟩:∃ a n c,sv=.slice a n c:=(by obtain ⟨a,c,e,_⟩:=h; exact ⟨a,_,c,e⟩)
 obtain ⟨y,hy⟩:∃ y,svs[id]=y:=⟨_,rfl⟩
 rw [hy] at cX ⊢
 have d1:decide ((id:Int)<0)=false:=decide_eq_false (by omega)
 have d2:decide ((id:Int)≥(svs.length:Int))=false:=decide_eq_false (by omega)
 replace h:=Hd h
 replace hy:=Hd hy
 go_enter Tryz.func192,Tryz.ntmps192
 go_wp2
 go_ret2
 exact ⟨_,_,rfl,Below.refl _ _,rfl,rfl,rfl⟩
theorem natI_snoc (xs:List Nat) (x:Nat):natI (xs++[x])=natI xs++[(x:Int)]:=by simp [natI]
theorem and_bit {m j:Nat} (hm:m<2 ^ 64):bits BinOp.and IntKind.u64 ((m:Int)/2 ^ j) 1=((m/2 ^ j &&& 1:Nat):Int):=by
 have e:((m:Int)/2 ^ j)=((m/2 ^ j:Nat):Int):=by norm_cast
 rw [e]
 exact bits_and_u64_nat (m/2 ^ j) 1 (Nat.lt_of_le_of_lt (Nat.div_le_self _ _) hm) (by decide)
theorem bag_Get (n g id:Nat) (sv:Value) (svs:List Value) (l:List Bool) (w:World) (c0:w.cell? ⟨g,0,none⟩=some (.int .i64 n)) (c1:w.cell? ⟨g,1,none⟩=some sv) (h:ValsAt w sv svs) (hid:id<svs.length) (hs:ValsAt w svs[id] (wordsV (wordsB l))) (hl:l.length=n) (hn:n≤4096) :
 Calls Tryz.prog 179 #[.pointer (some ⟨g,0,none⟩),.int .i64 id] w (Ret2 (fun x y w'=>y=.nilIface∧OwnI w.heap.size w' x (natI (memB l n))) w):=by
 obtain ⟨va,vn,vc,hsv⟩:∃ a n c,svs[id]=.slice a n c:=(by obtain ⟨a,c,e,_⟩:=hs; exact ⟨a,_,c,e⟩)
 have hset:=bag_set g id 0 sv svs w c1 h hid
 rw [hsv] at hset hs
 have hg:=World.block_lt_of_cell? _ _ c0
 replace h:=Hd h
 replace hs:=Hd hs
 replace hsv:=Hd hsv
 go_enter Tryz.func179,Tryz.ntmps179
 go_wp2_with fail
 refine hset.mono ?_
 rintro e w1 ⟨_,_,rfl,b1,rfl,rfl,rfl⟩
 go_wp2
 go_loopw [8,23] (fun ov iv wr=>∃ (i:Nat) (ow:Value),ow=ov∧iv=.int .i64 i∧i≤n∧OwnI w1.heap.size wr ow (natI (memB l i))∧Below w1.heap.size w1 wr) (fun _ iv _=>n-(intOf iv).toNat)
 case atStart=>exact ⟨0,_,rfl,rfl,Nat.zero_le _,OwnI.nil _ _,Below.refl _ _⟩
 case round =>
  obtain ⟨i,ow,rfl,rfl,hi,hO,hB⟩:=hrel
  obtain ⟨wo,rfl⟩:∃ wo:World,wo=wr:=⟨_,rfl⟩
  by_cases hil:i<n
  ·have di:decide ((i:Int)<(n:Int))=true:=decide_eq_true (by omega)
   have hv:=hs.out.below hB
   have hk:i/64<(wordsV (wordsB l)).length:=by rw [wordsV_len,wordsB_len]; omega
   have iS:∀ w',(Instr.indexAt 257 (.slice va vn vc) (.int .i64 ((i:Int)/64))).run Tryz.prog w'=.ok (.pointer (some (valAt (.slice va vn vc) (i/64)))) w':=by
    intro w'
    have:=hv.idx oneWords (i/64) hk w'
    rwa [show ((i/64:Nat):Int)=(i:Int)/64 by omega] at this
   have cS:=hv.cell (i/64) hk
   have eS:(wordsV (wordsB l))[i/64]=.int .u64 ((wordB l (i/64):Nat):Int):=by simp [wordsV,wordsB]
   rw [eS] at cS
   have m0:(0:Int)≤(i:Int)%64:=by omega
   have m1:(i:Int)%64≤64:=by omega
   have hwl:=wordB_lt l (i/64)
   have hbit:=bit_at l i
   have hsn:=memB_succ l i
   have hBs:=hB.size
   have hml:(natI (memB l i)).length≤4096:=by
    rw [natI_len]
    exact Nat.le_trans (List.length_filter_le _ _) (by rw [List.length_range]; omega)
   obtain ⟨m,hm⟩:∃ m,wordB l (i/64)=m:=⟨_,rfl⟩
   rw [hm] at cS hwl hbit
   have hab:=and_bit (m:=m) (j:=i%64) hwl
   rw [hbit] at hab
   obtain ⟨aS,haS⟩:∃ aS,valAt (.slice va vn vc) (i/64)=aS:=⟨_,rfl⟩
   rw [haS] at iS cS
   replace hv:=Hd hv
   replace hm:=Hd hm
   replace haS:=Hd haS
   replace hbit:=Hd hbit
   clear hk eS
   cases hb:l.getD i false with
   | true =>
    have ha1:bits BinOp.and IntKind.u64 ((m:Int)/2 ^ (i%64)) 1=1:=by rw [hab,hb]; rfl
    have hn1:natI (memB l (i+1))=natI (memB l i)++[(i:Int)]:=by rw [hsn,hb,if_pos rfl,natI_snoc]
    obtain ⟨M,hM⟩:∃ M,natI (memB l i)=M:=⟨_,rfl⟩
    rw [hM] at hn1 hO hml
    clear hab hsn hb
    replace hM:=Hd hM
    replace hn1:=Hd hn1
    go_wp2_with (at_builtin; refine wpl_append1 rfl _ _ rfl w1.heap.size _ M (i:Int) hO rfl rfl (by omega) hBs ?_)
    intro v' w3 hO3 b3 _ _
    rw [← hn1.out] at hO3
    replace hO3:=Hd hO3
    clear hO
    go_wp2
    go_roundw
    case measure=>simp [intOf]; omega
    case rel=>exact ⟨i+1,_,rfl,by go_num,by omega,hO3.out,hB.trans b3⟩
   | false =>
    have ha1:bits BinOp.and IntKind.u64 ((m:Int)/2 ^ (i%64)) 1=0:=by rw [hab,hb]; rfl
    have hn1:memB l (i+1)=memB l i:=by rw [hsn,hb,if_neg (by decide),List.append_nil]
    rw [← hn1] at hO
    clear hab hsn hb hn1
    replace hO:=Hd hO
    go_wp2
    go_roundw
    case measure=>simp [intOf]; omega
    case rel=>exact ⟨i+1,_,rfl,by go_num,by omega,hO.out,hB⟩
  ·have di:decide ((i:Int)<(n:Int))=false:=decide_eq_false (by omega)
   obtain rfl:i=n:=by omega
   replace hO:=Hd hO
   go_wp2
   go_ret2
   exact ⟨_,_,rfl,hB,rfl,hO.out⟩
theorem oneStrs:OneCell 72 9 (.string ⟨#[]⟩) 16:=⟨by kernel_rfl,by kernel_rfl,rfl,by decide,fun _=>by kernel_rfl⟩
def EAt (w:World) (t:PErr) (v:Value):Prop :=
 match t with
 | none=>v=.agg #[.int .i64 0,.slice none 0 0,.slice none 0 0]
 | some (n,l)=>∃ a1 n1 c1 a2 n2 c2,v=.agg #[.int .i64 n,.slice a1 n1 c1,.slice a2 n2 c2]∧ValsAt w (.slice a1 n1 c1) (l.map fun x=>Value.string x.1)∧IntsAt w (.slice a2 n2 c2) (l.map (·.2))
theorem EAt.below {w w':World} {t:PErr} {v:Value} (h:EAt w t v) (hb:Below w.heap.size w w'):EAt w' t v:=by
 match t,h with
 | none,h=>exact h
 | some (n,l),⟨a1,n1,c1,a2,n2,c2,e,h1,h2⟩=>exact ⟨a1,n1,c1,a2,n2,c2,e,h1.below hb,h2.below hb⟩
def EOwn (B:Nat) (w:World) (t:PErr) (v:Value):Prop :=
 match t with
 | none=>v=.agg #[.int .i64 0,.slice none 0 0,.slice none 0 0]
 | some (n,l)=>∃ a1 n1 c1 a2 n2 c2,v=.agg #[.int .i64 n,.slice a1 n1 c1,.slice a2 n2 c2]∧OwnV 9 B w (.slice a1 n1 c1) (l.map fun x=>Value.string x.1)∧OwnV 3 B w (.slice a2 n2 c2) ((l.map (·.2)).map (Value.int .i64))
theorem OwnV.setBelowBase {E:TypeId} {B:Nat} {w:World} {v:Value} {vs:List Value} (h:OwnV E B w v vs) {a:Addr} (ha:a.block<B) (u:Value):OwnV E B (w.setCell a u) v vs:=ownsRow_setCell_below h ha u
theorem EOwn.at {B:Nat} {w:World} {t:PErr} {v:Value} (h:EOwn B w t v):EAt w t v:=by
 match t,h with
 | none,h=>exact h
 | some (n,l),⟨a1,n1,c1,a2,n2,c2,e,h1,h2⟩=>exact ⟨a1,n1,c1,a2,n2,c2,e,h1.at,OwnI.at (OwnV.toI h2)⟩
theorem EOwn.mono {B B':Nat} {w:World} {t:PErr} {v:Value} (h:EOwn B w t v) (hB:B'≤B):EOwn B' w t v:=by
 match t,h with
 | none,h=>exact h
 | some (n,l),⟨a1,n1,c1,a2,n2,c2,e,h1,h2⟩=>exact ⟨a1,n1,c1,a2,n2,c2,e,h1.mono hB,h2.mono hB⟩
theorem EOwn.below {B:Nat} {w w':World} {t:PErr} {v:Value} (h:EOwn B w t v) (hb:Below w.heap.size w w'):EOwn B w' t v:=by
 match t,h with
 | none,h=>exact h
 | some (n,l),⟨a1,n1,c1,a2,n2,c2,e,h1,h2⟩=>exact ⟨a1,n1,c1,a2,n2,c2,e,h1.below hb,h2.below hb⟩
theorem EOwn.set {B:Nat} {w:World} {t:PErr} {v:Value} (h:EOwn B w t v) {a:Addr} (ha:a.block<B) (u:Value):EOwn B (w.setCell a u) t v:=by
 match t,h with
 | none,h=>exact h
 | some (n,l),⟨a1,n1,c1,a2,n2,c2,e,h1,h2⟩=>exact ⟨a1,n1,c1,a2,n2,c2,e,h1.setBelowBase ha u,h2.setBelowBase ha u⟩
theorem EOwn.set3 {B b:Nat} {w:World} {t:PErr} {v:Value} (h:EOwn B w t v) (hb:b<B) (x y z:Value):EOwn B (((w.setCell ⟨b,0,none⟩ x).setCell ⟨b,1,none⟩ y).setCell ⟨b,2,none⟩ z) t v :=
 ((h.set (a:=⟨b,0,none⟩) hb x).set (a:=⟨b,1,none⟩) hb y).set (a:=⟨b,2,none⟩) hb z
theorem Below.set3 {B b:Nat} {w0 w:World} (h:Below B w0 w) (hb:B≤b) (x y z:Value):Below B w0 (((w.setCell ⟨b,0,none⟩ x).setCell ⟨b,1,none⟩ y).setCell ⟨b,2,none⟩ z) :=
 ((h.setCell (p:=⟨b,0,none⟩) hb x).setCell (p:=⟨b,1,none⟩) hb y).setCell (p:=⟨b,2,none⟩) hb z
theorem OwnV.lit {E:TypeId} (B:Nat) (w:World) (hB:B≤w.heap.size) (x:Value):OwnV E B (w.alloc (.cells #[x] E)) (.slice (some ⟨w.heap.size,0,none⟩) 1 1) [x] :=
 World.ownsRow_lit (base:=B) (e:=E) (size:=1) w #[x] 1 hB (by unfold maxLen; omega) rfl
theorem EAt.shape {w:World} {t:PErr} {v:Value} (h:EAt w t v):∃ n a1 n1 c1 a2 n2 c2,v=.agg #[.int .i64 n,.slice a1 n1 c1,.slice a2 n2 c2]:=by
 match t,h with
 | none,h=>exact ⟨0,none,0,0,none,0,0,h⟩
 | some (n,l),⟨a1,n1,c1,a2,n2,c2,e,_⟩=>exact ⟨n,a1,n1,c1,a2,n2,c2,e⟩
abbrev zErr:Value:=.agg #[.int .i64 0,.slice none 0 0,.slice none 0 0]
theorem EAt.none (w:World):EAt w none zErr:=rfl
theorem raw_root (r:Nat→Addr) (n:Int) (w:World) (hg:Glob r w) (h1:1≤n) (h2:n≤11) :
 Calls Tryz.prog 32 #[.int .i64 n] w fun e w'=>e=.returned (rootV r n)∧w=w':=by
 obtain ⟨c1,c2,c3,c4,c5,c6,c7,c8,c9,c10,c11,_,_,_,_⟩:=hg
 have hn:n=1∨n=2∨n=3∨n=4∨n=5∨n=6∨n=7∨n=8∨n=9∨n=10∨n=11:=by omega
 rcases hn with rfl | rfl | rfl | rfl | rfl | rfl | rfl | rfl | rfl | rfl | rfl <;>
 (clear h1 h2
  go_enter Tryz.func32,Tryz.ntmps32
  go_wp2
  go_ret
  exact ⟨rfl,rfl⟩)
theorem ValsAt.alloc {w:World} {v:Value} {vs:List Value} (h:ValsAt w v vs) (o:Obj):ValsAt (w.alloc o) v vs:=h.below ((Below.refl _ _).alloc (Nat.le_refl _) _)
theorem ValsAt.drew {w:World} {v:Value} {vs:List Value} (h:ValsAt w v vs):ValsAt w.drew v vs:=h
theorem ValsAt.split {w:World} {v:Value} {vs:List Value} (h:ValsAt w v vs):(v=.slice none 0 0∧vs=[])∨∃ p cap,v=.slice (some p) vs.length cap∧∀ j u,vs[j]?=some u→w.cell? (p.add j)=some u:=by
 obtain ⟨a,cap,rfl,h1,h2,h3,h4⟩:=h
 cases a with
 | none =>
  obtain rfl:=h3 rfl
  obtain rfl:=List.length_eq_zero_iff.1 (show vs.length=0 by omega)
  exact .inl ⟨rfl,rfl⟩
 | some p =>
  refine .inr ⟨p,cap,rfl,fun j u hj=>?_⟩
  have hjl:j<vs.length:=(List.getElem?_eq_some_iff.1 hj).1
  have:=h4 j hjl
  simp only [valAt] at this
  rw [this,← hj]; simp [hjl]
theorem IntsAt.alloc {w:World} {v:Value} {xs:List Int} (h:IntsAt w v xs) (o:Obj):IntsAt (w.alloc o) v xs:=h.below ((Below.refl _ _).alloc (Nat.le_refl _) _)
end Go.Proofs.YtkaoebokbfcmhaaGreatDoor
namespace Go.Proofs.YtkaoebokbfcmhaaGreatDoor
open Go.RowKit
set_option maxRecDepth 100000
theorem EOwn.shape {B:Nat} {w:World} {t:PErr} {v:Value} (h:EOwn B w t v):∃ n a1 n1 c1 a2 n2 c2,v=.agg #[.int .i64 n,.slice a1 n1 c1,.slice a2 n2 c2]:=h.at.shape
theorem below_set3 {B b:Nat} {w0 w:World} (h:Below B w0 w) (hb:B≤b) (x y z:Value):Below B w0 (((w.setCell ⟨b,0,none⟩ x).setCell ⟨b,1,none⟩ y).setCell ⟨b,2,none⟩ z) :=
 ((h.setCell (p:=⟨b,0,none⟩) hb x).setCell (p:=⟨b,1,none⟩) hb y).setCell (p:=⟨b,2,none⟩) hb z
set_option maxHeartbeats 8000000
theorem mul3 {x s:Int} (hx:0≤x∧x<4) (hs:0≤s∧s<4):0≤x*s∧x*s≤9:=by
 obtain ⟨h1,h2⟩:=hx
 obtain ⟨h3,h4⟩:=hs
 have a:x=0∨x=1∨x=2∨x=3:=by omega
 rcases a with rfl | rfl | rfl | rfl<;>omega
theorem sum_any (K:Nat) (v:Value) (f:List Int) (w:World) (h:IntsAt w v f) (hf:Syms K f) (h1:1≤K) (h4:K≤4) (h7:f.length≤7) :
 Calls Tryz.prog 122 #[.int .i64 K,v] w (Ret1 (fun x w'=>∃ a n c,x=.agg #[.int .i64 K,.int .i64 (f.length/2:Nat),.slice a n c]∧OwnI w.heap.size w' (.slice a n c) (sumT K f)) w):=by
 have hl:=h.len
 replace hf:=Hd hf
 have h0:=Hd h
 clear h
 go_enter Tryz.func122,Tryz.ntmps122
 go_wp2
 go_loopw [5,15] (fun t i wr=>∃ k:Nat,k≤f.length∧i=.int .i64 k∧OwnI (w.heap.size+1) wr t (sumT K (f.take k))∧Below (w.heap.size+1) (w.alloc (.cells #[.int .i64 0,.int .i64 0,.slice none 0 0] 24)) wr) (fun _ i _=>f.length-(intOf i).toNat)
 case atStart =>
  refine ⟨0,by omega,rfl,?_,(Below.refl _ _).alloc (by simp) _⟩
  have:=OwnI.lit (w.heap.size+1) (w.alloc (.cells #[.int .i64 0,.int .i64 0,.slice none 0 0] 24)) (by simp) [0] (by decide) #[.int .i64 0] rfl 1 rfl
  simpa [sumT,sumTable] using this
 case round =>
  obtain ⟨k,hk,rfl,hT,hb⟩:=hrel
  by_cases hlt:k<f.length
  ·obtain ⟨wo,rfl⟩:∃ wo:World,wo=wr:=⟨_,rfl⟩
   have hbw:Below w.heap.size w wo:=((Below.refl _ _).alloc (Nat.le_refl _) _).trans (hb.mono (by omega))
   have hfo:=h0.out.below hbw
   have hi:=hfo.idx k hlt
   have hc:=hfo.cell k hlt
   have hxs:=hf.out f[k] (by simp)
   have hTt:=hT.at
   have hTs:Syms K (sumT K (f.take k)):=sumT_syms h1 _
   have hTlen:(sumT K (f.take k)).length≤16384:=by rw [sumT_length]; exact pw_le h1 h4 (by simp; omega)
   have hTe:Hid (sumT K (f.take (k+1))=sumStep K f[k] (sumT K (f.take k))):=by
    show _=_
    rw [take_snoc f k hlt]; exact sumTable_snoc ..
   clear hT
   generalize sumT K (f.take k)=T at hTe hTs hTlen hTt
   generalize f[k]=x at hTe hxs hc
   have hmle:(0:Int)≤(T.length:Int)*(K:Int)∧(T.length:Int)*(K:Int)≤65536:=by
    constructor
    ·exact Int.mul_nonneg (by omega) (by omega)
    ·calc _≤(16384:Int)*4:=Int.mul_le_mul (by omega) (by omega) (by omega) (by omega)
      _=65536:=by decide
   have hTl:=hTt.len
   replace hTs:=Hd hTs
   have hmle1:=hmle.1
   have hmle2:=hmle.2
   clear hmle
   go_wp2_with (at_make; refine wpl_make0 rfl _ _ rfl _ rfl rfl hmle1 (by omega) ?_)
   intro nv w2 hn hb2
   go_wp2
   go_loopw [8,26] (fun n i wr=>∃ j:Nat,j≤T.length∧i=.int .i64 j∧OwnI wo.heap.size wr n (sumStep K x (T.take j))∧Below wo.heap.size wo wr) (fun _ i _=>T.length-(intOf i).toNat)
   case atStart=>exact ⟨0,by omega,rfl,by simpa [sumStep_nil] using hn,hb2⟩
   case round =>
    obtain ⟨j,hj,rfl,hN,hbN⟩:=hrel
    by_cases hjl:j<T.length
    ·obtain ⟨wi,rfl⟩:∃ wi:World,wi=wr:=⟨_,rfl⟩
     have hTi:=hTt.below hbN
     have hi2:=hTi.idx j hjl
     have hc2:=hTi.cell j hjl
     have hys:=hTs.out T[j] (by simp)
     have hTe2:Hid (sumStep K x (T.take (j+1))=sumStep K x (T.take j)++sumRow K x T[j] K):=by
      show _=_
      rw [take_snoc T j hjl,sumStep_snoc]
     have hTl2:(sumStep K x (T.take j)).length≤65536:=by
      rw [sumStep_length]
      have:(T.take j).length≤16384:=by simp; omega
      calc _≤16384*4:=Nat.mul_le_mul this h4
       _=65536:=by decide
     generalize T[j]=y at hTe2 hys hc2
     generalize sumStep K x (T.take j)=N at hTe2 hN hTl2
     go_wp2
     go_loopw [8,31] (fun n i wr=>∃ s:Nat,s≤K∧i=.int .i64 s∧OwnI wo.heap.size wr n (N++sumRow K x y s)∧Below wo.heap.size wo wr) (fun _ i _=>K-(intOf i).toNat)
     case atStart=>exact ⟨0,by omega,rfl,by simpa [sumRow] using hN,hbN⟩
     case round =>
      obtain ⟨s,hs,rfl,hM,hbM⟩:=hrel
      by_cases hsl:s<K
      ·obtain ⟨wj,rfl⟩:∃ wj:World,wj=wr:=⟨_,rfl⟩
       have hb9:=mul3 (x:=x) (s:=s) ⟨hxs.1,by omega⟩ ⟨by omega,by omega⟩
       have hb9a:=hb9.1
       have hb9b:=hb9.2
       clear hb9
       have hse:Hid (N++sumRow K x y (s+1)=(N++sumRow K x y s)++[(y+x*s)%K]):=by
        show _=_
        rw [sumRow_succ,List.append_assoc]
       have hlM:(N++sumRow K x y s).length≤70000:=by simp [sumRow_length]; omega
       generalize N++sumRow K x y s=M at hse hM hlM
       go_wp2_with (at_builtin; refine wpl_append1 rfl _ _ rfl wo.heap.size _ M ((y+x*s)%K) hM rfl rfl (by omega) (hbM.size) ?_)
       intro nv' w3 hM' hb3 _ _
       go_wp2
       go_roundw
       case rel=>exact ⟨s+1,by omega,by go_num,by rw [hse.out]; exact hM',hbM.trans hb3⟩
       case measure=>simp [intOf]; omega
      ·obtain rfl:s=K:=by omega
       go_wp2
       go_roundw
       case rel=>exact ⟨j+1,by omega,by go_num,by rw [hTe2.out]; exact hM,hbM⟩
       case measure=>simp [intOf]; omega
    ·obtain rfl:j=T.length:=by omega
     go_wp2
     go_roundw
     case rel =>
      refine ⟨k+1,by omega,by go_num,?_,hb.trans (hbN.mono (by have:=hb.size; simp at this; omega))⟩
      rw [hTe.out]
      rw [List.take_length] at hN
      exact hN.mono (by have:=hb.size; simp at this; omega)
     case measure=>simp [intOf]; omega
  ·obtain rfl:k=f.length:=by omega
   rw [List.take_length] at hT
   have hlen2:0≤(f.length:Int)/2:=by omega
   have hz0:wr.cell? ⟨w.heap.size,0,none⟩=some (.int .i64 0):=by rw [hb.cell (by simp)]; simp
   have hz1:wr.cell? ⟨w.heap.size,1,none⟩=some (.int .i64 0):=by rw [hb.cell (by simp)]; simp
   have hz2:wr.cell? ⟨w.heap.size,2,none⟩=some (.slice none 0 0):=by rw [hb.cell (by simp)]; simp
   have hf0:wr.frozen? ⟨w.heap.size,0,none⟩=false:=by rw [hb.frozen (by simp)]; simp
   have hf1:wr.frozen? ⟨w.heap.size,1,none⟩=false:=by rw [hb.frozen (by simp)]; simp
   have hf2:wr.frozen? ⟨w.heap.size,2,none⟩=false:=by rw [hb.frozen (by simp)]; simp
   obtain ⟨a,n,c,hv⟩:=hT.at.shape
   rw [hv] at hT ⊢
   clear hv
   go_wp2
   refine bodyPost_end (v:=.agg #[.int .i64 K,.int .i64 (f.length/2),.slice a n c]) (by simp [results,Tryz.results122,go_sem,hz0,hz1,hz2]) rfl ⟨_,rfl,?_,a,n,c,by simp,?_⟩
   ·exact ((((Below.refl _ _).alloc (Nat.le_refl _) _).trans (hb.mono (by omega))).setCell (by simp) _ |>.setCell (by simp) _).setCell (by simp) _
   ·exact (((hT.setBelowBase (by simp) _).setBelowBase (by simp) _).setBelowBase (by simp) _).mono (by omega)
end Go.Proofs.YtkaoebokbfcmhaaGreatDoor
namespace Go.Proofs.YtkaoebokbfcmhaaGreatDoor
open Go.RowKit
set_option maxRecDepth 100000
theorem ValsAt.shape {w:World} {v:Value} {vs:List Value} (h:ValsAt w v vs):∃ a n c,v=.slice a n c:=by
 obtain ⟨a,cap,e,_⟩:=h; exact ⟨_,_,_,e⟩
theorem cell_keep {w w':World} {b i:Nat} {x:Value} (hb:Below w.heap.size w w') (h:w.cell? ⟨b,i,none⟩=some x):w'.cell? ⟨b,i,none⟩=some x :=
 (hb.cell (p:=⟨b,i,none⟩) (World.block_lt_of_cell? _ _ h)).trans h
def Box3 (w:World) (b:Nat) (x0 x1 x2:Value):Prop:=(w.cell? ⟨b,0,none⟩=some x0∧w.cell? ⟨b,1,none⟩=some x1∧w.cell? ⟨b,2,none⟩=some x2)∧w.frozen? ⟨b,0,none⟩=false∧w.frozen? ⟨b,1,none⟩=false∧w.frozen? ⟨b,2,none⟩=false
theorem Box3.below {w w':World} {b:Nat} {x0 x1 x2:Value} (h:Box3 w b x0 x1 x2) (hb:Below w.heap.size w w'):Box3 w' b x0 x1 x2:=by
 obtain ⟨⟨h0,h1,h2⟩,f0,f1,f2⟩:=h
 have hlt:=World.block_lt_of_cell? _ _ h0
 exact ⟨⟨cell_keep hb h0,cell_keep hb h1,cell_keep hb h2⟩,(hb.frozen (p:=⟨b,0,none⟩) hlt).trans f0,(hb.frozen (p:=⟨b,1,none⟩) hlt).trans f1,(hb.frozen (p:=⟨b,2,none⟩) hlt).trans f2⟩
theorem Box3.alloc {w:World} {b:Nat} {x0 x1 x2:Value} (h:Box3 w b x0 x1 x2) (o:Obj):Box3 (w.alloc o) b x0 x1 x2:=h.below ((Below.refl _ _).alloc (Nat.le_refl _) _)
theorem Box3.drew {w:World} {b:Nat} {x0 x1 x2:Value} (h:Box3 w b x0 x1 x2):Box3 w.drew b x0 x1 x2:=h
theorem OwnV.drew {E:TypeId} {B:Nat} {w:World} {v:Value} {vs:List Value} (h:OwnV E B w v vs):OwnV E B w.drew v vs:=h
theorem Below.stepL {w1 w2 w3:World} (h:Below w1.heap.size w1 w2) (k:Below w2.heap.size w2 w3):Below w1.heap.size w1 w3:=h.trans (k.mono h.size)
theorem belowAlloc' (w:World) (o:Obj):Below w.heap.size w (w.alloc o):=(Below.refl _ _).alloc (Nat.le_refl _) _
end Go.Proofs.YtkaoebokbfcmhaaGreatDoor
namespace Go.Proofs.YtkaoebokbfcmhaaGreatDoor
open Go.RowKit Go.Extern.Stop Go.Stop Go.Extern
set_option maxRecDepth 100000
set_option maxHeartbeats 8000000
namespace Errs
theorem typeOfE (v:Value) (w:World):(ReflectliteType.typeOf #[.iface 287 v]).run Tryz.prog w=.ok (.iface 192 (.agg #[.pointer (some ⟨13,287,none⟩)])) w:=by kernel_rfl
theorem comparableE (w : World) : ((ReflectliteType.method fun t => do Rtype.noPackHeld "Comparable" t; (fun a => Value.bool a.comparable) <$> typeInfo t) #[.agg #[.pointer (some ⟨13, 287, none⟩)]]).run Tryz.prog w = .ok (.bool true) w := by kernel_rfl
theorem methodComparable (v : Value) (w : World) : (Go.method 419 192 v "Comparable").run Tryz.prog w = .ok (232, v) w := by kernel_rfl
theorem compE:(Tryz.prog.info? 287).map (·.comparable)=some true:=by kernel_rfl
theorem sizeE:(Tryz.prog.info? 307).map (·.size)=some 1:=by kernel_rfl
theorem uErr : Tryz.prog.underlying 27 = some (.interface #[("Error", 288)]) := by kernel_rfl
theorem uES:Tryz.prog.underlying 287=some (.pointer 307):=by kernel_rfl
theorem uIs : Tryz.prog.underlying 194 = some (.interface #[("Is", 196)]) := by kernel_rfl
theorem uUnw : Tryz.prog.underlying 197 = some (.interface #[("Unwrap", 179)]) := by kernel_rfl
theorem noIsF (v:Value) (xT:TypeId) (w:World):(Instr.typeAssert (.iface 75 v) xT 194 true).run Tryz.prog w=.ok (.tuple #[.nilIface,.bool false]) w:=run_typeAssert_lacksB uIs (by kernel_rfl) (by kernel_rfl) v xT w
theorem hasUnwrapF (v:Value) (xT:TypeId) (w:World):(Instr.typeAssert (.iface 75 v) xT 197 true).run Tryz.prog w=.ok (.tuple #[.iface 75 v,.bool true]) w:=run_typeAssert_hasB uUnw (by kernel_rfl) v xT w
theorem methodUnwrap (v : Value) (w : World) : (Go.method 419 75 v "Unwrap").run Tryz.prog w = .ok (225, v) w := by kernel_rfl
theorem unwrap_any (p:Nat) (u:Value) (w:World) (h:w.cell? ⟨p,2,none⟩=some u) :
 Calls Tryz.prog 225 #[.pointer (some ⟨p,0,none⟩)] w fun e w'=>e=.returned u∧w=w':=by
 go_enter Tryz.func225,Tryz.ntmps225
 go_wp2
 go_ret
 exact ⟨rfl,rfl⟩
theorem is_loop (r:Nat→Addr) (n:Int) (l:List (ByteArray×Int)) (v:Value) (w:World) (h:ErrAt r w n l v) :
 Calls Tryz.prog 72 #[v,rootV r n,.bool true] w fun e w'=>e=.returned (.bool true)∧w=w':=by
 obtain ⟨i,hi,hcmp⟩:=Option.map_eq_some_iff.1 compE
 obtain ⟨j,hj,hjs⟩:=Option.map_eq_some_iff.1 sizeE
 have heq:=run_eql_iface_ptr_same (P:=Tryz.prog) w (r n.toNat) uErr uES hi hcmp hj
 have nF:=noIsF
 have uF:=hasUnwrapF
 have mU:=methodUnwrap
 clear hi hcmp hj hjs
 replace h:=Hd h
 go_enter Tryz.func72,Tryz.ntmps72
 go_wp2
 go_loopg [0] l.length (fun k u wr=>wr=w∧∃ l',l'.length=k∧ErrAt r w n l' u)
 case atStart=>exact ⟨rfl,l,rfl,h.out⟩
 case round =>
  obtain ⟨rfl,l',hl',hu⟩:=hrel
  match l',hl',hu with
  | [],hl',hu =>
   obtain rfl:_=rootV r n:=hu
   clear hl'
   go_wp2
   go_ret
   exact ⟨rfl,rfl⟩
  | (op,at_)::rest,hl',hu =>
   obtain ⟨p,u',rfl,c0,c1,c2,hrest⟩:=hu
   obtain ⟨T,a,rfl⟩:=hrest.shape
   have hty:=run_eql_iface_types (P:=Tryz.prog) 75 287 (.pointer (some ⟨p,0,none⟩)) (.pointer (some (r n.toNat))) uErr (by decide) wr
   replace hrest:=Hd hrest
   replace hl':=Hd hl'
   go_wp2_with (go_at_call 225; refine (unwrap_any p _ _ c2).mono ?_; rintro e w' ⟨rfl,rfl⟩)
   go_roundg rest.length
   case measure=>have:=hl'.out; simp at this; omega
   case rel=>exact ⟨rfl,rest,rfl,hrest.out⟩
theorem is_any (r:Nat→Addr) (n:Int) (l:List (ByteArray×Int)) (v:Value) (w:World) (h:ErrAt r w n l v) :
 Calls Tryz.prog 27 #[v,rootV r n] w fun e w'=>e=.returned (.bool true)∧w=w':=by
 have h8:=@run_callFunc_extern Tryz.prog 71 _ Extern.ReflectliteType.typeOf Tryz.func71 (by kernel_rfl) (by kernel_rfl) (by kernel_rfl) (by kernel_rfl)
 have h32 := @run_callFunc_extern Tryz.prog 232 _ (Extern.ReflectliteType.method fun t => do Extern.Rtype.noPackHeld "Comparable" t; pure (.bool (← typeInfo t).comparable)) Tryz.func232 (by kernel_rfl) (by kernel_rfl) (by kernel_rfl) (by kernel_rfl)
 have tT:=typeOfE
 have cT:=comparableE
 have mR:=methodComparable
 obtain ⟨T,a,rfl⟩:=h.shape
 replace h:=Hd h
 go_enter Tryz.func27,Tryz.ntmps27
 go_wp2_with fail
 refine (is_loop r n l _ _ h.out).mono ?_
 rintro e w' ⟨rfl,rfl⟩
 go_wp2
 go_ret
 exact ⟨rfl,rfl⟩
end Errs
end Go.Proofs.YtkaoebokbfcmhaaGreatDoor
namespace Go.Proofs.YtkaoebokbfcmhaaGreatDoor
open Go.RowKit Go.Extern.Stop Go.Stop Go.Extern
set_option maxRecDepth 100000
namespace Errs
theorem uF:Tryz.prog.underlying 75=some (.pointer 79):=by kernel_rfl
theorem valueOfFF (t:Addr) (w:World):(ReflectliteValue.unpack (.iface 77 (.pointer (some t)))).run Tryz.prog w
 = .ok (.agg #[.pointer (some ⟨13,77,none⟩),.pointer (some ⟨w.heap.size,0,none⟩),.int .u64 150]) (w.alloc (.cells #[.pointer (some t)] 77)):=by kernel_rfl
theorem typeFF (a : Addr) (w : World) : (ReflectliteValue.methodAny (ReflectliteValue.valueError "reflectlite.Value.Type" 0) (fun t _ _ _ => ReflectliteType.toType t) #[.agg #[.pointer (some ⟨13, 77, none⟩), .pointer (some a), .int .u64 150]]).run Tryz.prog w
 = .ok (.iface 192 (.agg #[.pointer (some ⟨13,77,none⟩)])) w:=by kernel_rfl
theorem methodKind (h : Value) (w : World) : (Go.method 419 192 (.agg #[h]) "Kind").run Tryz.prog w = .ok (221, h) w := by kernel_rfl
theorem kindFF (w:World):((ReflectliteType.abiMethod fun t=>(fun a:Nat=>Value.int IntKind.u8 (a:Int)) <$> Rtype.kind t) #[.pointer (some ⟨13,77,none⟩)]).run Tryz.prog w=.ok (.int .u8 22) w:=by kernel_rfl
theorem kindF (w:World):((ReflectliteType.abiMethod fun t=>(fun a:Nat=>Value.int IntKind.u8 (a:Int)) <$> Rtype.kind t) #[.pointer (some ⟨13,75,none⟩)]).run Tryz.prog w=.ok (.int .u8 22) w:=by kernel_rfl
theorem rlm (z:Sem Value) (f:TypeId→Addr→Nat→Nat→Sem Value) (v:Value) :
 ReflectliteValue.method z f #[v]=(do match ← ReflectliteValue.parts v with | none=>z | some (t,a,fl)=>f t a fl (fl%32)):=rfl
theorem partsFF (a:Addr) (w:World):(ReflectliteValue.parts (.agg #[.pointer (some ⟨13,77,none⟩),.pointer (some a),.int .u64 150])).run Tryz.prog w=.ok (some (77,a,150)) w:=by kernel_rfl
theorem isNilFF (a p:Addr) (W:World) (ha:W.cell? a=some (.pointer (some p))) :
 (ReflectliteValue.method (ReflectliteValue.valueError "reflectlite.Value.IsNil" 0) ReflectliteValue.isNil #[.agg #[.pointer (some ⟨13, 77, none⟩), .pointer (some a), .int .u64 150]]).run Tryz.prog W = .ok (.bool false) W := by
 rw [rlm]
 simp only [Sem.run_bind,partsFF,Result.andThen]
 simp [ReflectliteValue.isNil,loadVar,isAgg,underlying,ha,Result.andThen]
theorem methodElem (h : Value) (w : World) : (Go.method 419 192 (.agg #[h]) "Elem").run Tryz.prog w = .ok (233, .agg #[h]) w := by kernel_rfl
theorem methodImplements (h : Value) (w : World) : (Go.method 419 192 (.agg #[h]) "Implements").run Tryz.prog w = .ok (234, .agg #[h]) w := by kernel_rfl
theorem methodAssignableTo (h : Value) (w : World) : (Go.method 419 192 (.agg #[h]) "AssignableTo").run Tryz.prog w = .ok (231, .agg #[h]) w := by kernel_rfl
theorem elemFF (w:World):(ReflectliteType.method ReflectliteType.elem #[.agg #[.pointer (some ⟨13,77,none⟩)]]).run Tryz.prog w=.ok (.iface 192 (.agg #[.pointer (some ⟨13,75,none⟩)])) w:=by kernel_rfl
theorem implementsF (w : World) : (ReflectliteType.relation "Implements" ReflectliteType.implements_ #[.agg #[.pointer (some ⟨13, 75, none⟩)], .iface 192 (.agg #[.pointer (some ⟨13, 27, none⟩)])]).run Tryz.prog w = .ok (.bool true) w := by kernel_rfl
theorem typeOfF (v:Value) (w:World):(ReflectliteType.typeOf #[.iface 75 v]).run Tryz.prog w=.ok (.iface 192 (.agg #[.pointer (some ⟨13,75,none⟩)])) w:=by kernel_rfl
theorem assignableF (w : World) : (ReflectliteType.relation "AssignableTo" ReflectliteType.assignableTo #[.agg #[.pointer (some ⟨13, 75, none⟩)], .iface 192 (.agg #[.pointer (some ⟨13, 75, none⟩)])]).run Tryz.prog w = .ok (.bool true) w := by kernel_rfl
theorem valueOfF (e:Addr) (w:World):(ReflectliteValue.unpack (.iface 75 (.pointer (some e)))).run Tryz.prog w
 = .ok (.agg #[.pointer (some ⟨13,75,none⟩),.pointer (some ⟨w.heap.size,0,none⟩),.int .u64 150]) (w.alloc (.cells #[.pointer (some e)] 75)):=by kernel_rfl
theorem elemOfFF (w:World):(Rtype.elem? 77).run Tryz.prog w=.ok (some 75) w:=by kernel_rfl
theorem mkF (p:Addr) (w:World):(ReflectliteValue.mk 75 p ReflectliteValue.flagAddr).run Tryz.prog w=.ok (.agg #[.pointer (some ⟨13,75,none⟩),.pointer (some p),.int .u64 406]) w:=by kernel_rfl
theorem elemVFF (a p:Addr) (W:World) (ha:W.cell? a=some (.pointer (some p))) :
 (ReflectliteValue.method (ReflectliteValue.valueError "reflectlite.Value.Elem" 0) ReflectliteValue.elem #[.agg #[.pointer (some ⟨13, 77, none⟩), .pointer (some a), .int .u64 150]]).run Tryz.prog W
   = .ok (.agg #[.pointer (some ⟨13,75,none⟩),.pointer (some p),.int .u64 406]) W:=by
 rw [rlm]
 simp only [Sem.run_bind,partsFF,Result.andThen]
 simp [ReflectliteValue.elem,loadVar,isAgg,underlying,ha,Result.andThen,elemOfFF,mkF]
theorem rls (v x:Value):ReflectliteValue.set #[v,x]=(do
 let (some (dst,a,fl),some (src,b,_)):=(← ReflectliteValue.parts v,← ReflectliteValue.parts x)
  | unsupported (.noEntry "extern/(internal/reflectlite.Value).Set.zeroValue")
 if fl / ReflectliteValue.flagAddr % 2 == 0 then unsupported (.noEntry "extern/(internal/reflectlite.Value).Set.unaddressable")
 let val ← loadVar src b
 if ← Rtype.directlyAssignable dst src then storeVar dst a val
 else if ← Rtype.implements dst src then
  if (← Rtype.kind src)==20 then
   match val with
   | .nilIface => unsupported (.noEntry "extern/reflectlite: a nil value of one interface type handed on as a value of another")
   | _=>storeVar dst a val
  else storeVar dst a (.iface src val)
 else panicString ("reflectlite.Set: value of type " ++ (← Rtype.spelt src) ++ " is not assignable to type " ++ (← Rtype.spelt dst))
 pure (.tuple #[])):=rfl
theorem partsFa (a:Addr) (w:World):(ReflectliteValue.parts (.agg #[.pointer (some ⟨13,75,none⟩),.pointer (some a),.int .u64 406])).run Tryz.prog w=.ok (some (75,a,406)) w:=by kernel_rfl
theorem partsF (a:Addr) (w:World):(ReflectliteValue.parts (.agg #[.pointer (some ⟨13,75,none⟩),.pointer (some a),.int .u64 150])).run Tryz.prog w=.ok (some (75,a,150)) w:=by kernel_rfl
theorem directF (w:World):(Rtype.directlyAssignable 75 75).run Tryz.prog w=.ok true w:=by kernel_rfl
theorem setF (ta b e:Addr) (old:Value) (W:World) (hb:W.cell? b=some (.pointer (some e))) (ht:W.cell? ta=some old) (hf:W.frozen? ta=false) :
 (ReflectliteValue.set #[.agg #[.pointer (some ⟨13,75,none⟩),.pointer (some ta),.int .u64 406],.agg #[.pointer (some ⟨13,75,none⟩),.pointer (some b),.int .u64 150]]).run Tryz.prog W
   = .ok (.tuple #[]) (W.setCell ta (.pointer (some e))):=by
 rw [rls]
 simp only [Sem.run_bind,partsFa,partsF,Result.andThen]
 simp [ReflectliteValue.flagAddr,loadVar,isAgg,underlying,hb,Result.andThen,directF,storeVar,Value.cells,storeCells,Addr.add]
 rw [run_store Tryz.prog W ta _ _ (by rfl)]
 simp [ht,hf]
end Errs
set_option maxHeartbeats 8000000
namespace Errs
theorem as_hit (e t:Addr) (old:Value) (w:World) (hg:w.cell? ⟨3,0,none⟩=some (.iface 192 (.agg #[.pointer (some ⟨13,27,none⟩)]))) (ht0:w.cell? t=some old) (hf0:w.frozen? t=false) :
 Calls Tryz.prog 31 #[.iface 75 (.pointer (some e)),.iface 77 (.pointer (some t))] w fun ev w'=>ev=.returned (.bool true)∧w'=((((w.alloc (.cells #[.pointer (some t)] 77)).alloc (.cells #[.pointer (some ⟨13,77,none⟩),.pointer (some ⟨w.heap.size,0,none⟩),.int .u64 150] 138)).alloc (.cells #[.pointer (some ⟨13,77,none⟩),.pointer (some ⟨w.heap.size,0,none⟩),.int .u64 150] 138)).alloc (.cells #[.pointer (some e)] 75)).setCell t (.pointer (some e)):=by
 have h6:=@run_callFunc_extern Tryz.prog 79 _ (fun args=>ReflectliteValue.unpack (args.getD 0 (.tuple #[]))) Tryz.func79 (by kernel_rfl) (by kernel_rfl) (by kernel_rfl) (by kernel_rfl)
 have h7 := @run_callFunc_extern Tryz.prog 80 _ (ReflectliteValue.methodAny (ReflectliteValue.valueError "reflectlite.Value.Type" 0) (fun t _ _ _ => ReflectliteType.toType t)) Tryz.func80 (by kernel_rfl) (by kernel_rfl) (by kernel_rfl) (by kernel_rfl)
 have h8 := @run_callFunc_extern Tryz.prog 81 _ (ReflectliteValue.method (ReflectliteValue.valueError "reflectlite.Value.IsNil" 0) ReflectliteValue.isNil) Tryz.func81 (by kernel_rfl) (by kernel_rfl) (by kernel_rfl) (by kernel_rfl)
 have h27:=@run_callFunc_extern Tryz.prog 221 _ (ReflectliteType.abiMethod fun t=>do pure (.int .u8 (← Rtype.kind t))) Tryz.func221 (by kernel_rfl) (by kernel_rfl) (by kernel_rfl) (by kernel_rfl)
 have h37:=@run_callFunc_extern Tryz.prog 233 _ (ReflectliteType.method ReflectliteType.elem) Tryz.func233 (by kernel_rfl) (by kernel_rfl) (by kernel_rfl) (by kernel_rfl)
 have h38 := @run_callFunc_extern Tryz.prog 234 _ (ReflectliteType.relation "Implements" ReflectliteType.implements_) Tryz.func234 (by kernel_rfl) (by kernel_rfl) (by kernel_rfl) (by kernel_rfl)
 have h10:=@run_callFunc_extern Tryz.prog 71 _ ReflectliteType.typeOf Tryz.func71 (by kernel_rfl) (by kernel_rfl) (by kernel_rfl) (by kernel_rfl)
 have h35 := @run_callFunc_extern Tryz.prog 231 _ (ReflectliteType.relation "AssignableTo" ReflectliteType.assignableTo) Tryz.func231 (by kernel_rfl) (by kernel_rfl) (by kernel_rfl) (by kernel_rfl)
 have h11 := @run_callFunc_extern Tryz.prog 125 _ (ReflectliteValue.method (ReflectliteValue.valueError "reflectlite.Value.Elem" 0) ReflectliteValue.elem) Tryz.func125 (by kernel_rfl) (by kernel_rfl) (by kernel_rfl) (by kernel_rfl)
 have h12:=@run_callFunc_extern Tryz.prog 126 _ ReflectliteValue.set Tryz.func126 (by kernel_rfl) (by kernel_rfl) (by kernel_rfl) (by kernel_rfl)
 have tO:=typeOfF
 have mA:=methodAssignableTo
 have aF:=assignableF
 have vF:=valueOfF
 have f6:=valueOfFF
 have f7:=typeFF
 have mK:=methodKind
 have mE:=methodElem
 have mI:=methodImplements
 have kFF:=kindFF
 have kF:=kindF
 have eFF:=elemFF
 have iF:=implementsF
 have n8:=isNilFF ⟨w.heap.size,0,none⟩ t ((w.alloc (.cells #[.pointer (some t)] 77)).alloc (.cells #[.pointer (some ⟨13,77,none⟩),.pointer (some ⟨w.heap.size,0,none⟩),.int .u64 150] 138)) (by simp)
 have hlt:3<w.heap.size:=World.block_lt_of_cell? _ _ hg
 have hg2:((w.alloc (.cells #[.pointer (some t)] 77)).alloc (.cells #[.pointer (some ⟨13,77,none⟩),.pointer (some ⟨w.heap.size,0,none⟩),.int .u64 150] 138)).cell? ⟨3,0,none⟩=some (.iface 192 (.agg #[.pointer (some ⟨13,27,none⟩)])):=by
  rw [World.cell?_alloc_lt _ _ ⟨3,0,none⟩ (by simp; omega),World.cell?_alloc_lt _ _ ⟨3,0,none⟩ hlt]; exact hg
 have htl:t.block<w.heap.size:=World.block_lt_of_cell? _ _ ht0
 have el:=elemVFF ⟨w.heap.size,0,none⟩ t (((w.alloc (.cells #[.pointer (some t)] 77)).alloc (.cells #[.pointer (some ⟨13,77,none⟩),.pointer (some ⟨w.heap.size,0,none⟩),.int .u64 150] 138)).alloc (.cells #[.pointer (some ⟨13,77,none⟩),.pointer (some ⟨w.heap.size,0,none⟩),.int .u64 150] 138)) (by rw [World.cell?_alloc_lt _ _ ⟨w.heap.size,0,none⟩ (by simp; omega)]; simp)
 have st:=setF t ⟨w.heap.size+1+1+1,0,none⟩ e old ((((w.alloc (.cells #[.pointer (some t)] 77)).alloc (.cells #[.pointer (some ⟨13,77,none⟩),.pointer (some ⟨w.heap.size,0,none⟩),.int .u64 150] 138)).alloc (.cells #[.pointer (some ⟨13,77,none⟩),.pointer (some ⟨w.heap.size,0,none⟩),.int .u64 150] 138)).alloc (.cells #[.pointer (some e)] 75))
  (by rw [World.cell?_alloc_at _ _ _ _ (by simp)]; rfl)
  (by rw [World.cell?_alloc_lt _ _ t (by simp; omega),World.cell?_alloc_lt _ _ t (by simp; omega),World.cell?_alloc_lt _ _ t (by simp; omega),World.cell?_alloc_lt _ _ t htl]; exact ht0)
  (by rw [World.frozen?_alloc_old _ _ t (by simp; omega),World.frozen?_alloc_old _ _ t (by simp; omega),World.frozen?_alloc_old _ _ t (by simp; omega),World.frozen?_alloc_old _ _ t (Nat.ne_of_lt htl)]; exact hf0)
 go_enter Tryz.func31,Tryz.ntmps31
 go_wp2
 refine wp_loop_rounds 1 ?_
 rw [rounds_succ]
 go_wp2
 go_ret
 exact ⟨rfl,rfl⟩
theorem as_any (e t:Addr) (old:Value) (w:World) (hg:w.cell? ⟨3,0,none⟩=some (.iface 192 (.agg #[.pointer (some ⟨13,27,none⟩)]))) (ht0:w.cell? t=some old) (hf0:w.frozen? t=false) :
 Calls Tryz.prog 31 #[.iface 75 (.pointer (some e)),.iface 77 (.pointer (some t))] w fun ev w'=>ev=.returned (.bool true)∧∃ w1,Below w.heap.size w w1∧w'=w1.setCell t (.pointer (some e)) :=
 (as_hit e t old w hg ht0 hf0).mono fun _ _ ⟨h1,h2⟩=>⟨h1,_,((((Below.refl _ _).alloc (Nat.le_refl _) _).alloc (by simp) _).alloc (by simp; omega) _).alloc (by simp; omega) _,h2⟩
end Errs
end Go.Proofs.YtkaoebokbfcmhaaGreatDoor
namespace Go.Proofs.YtkaoebokbfcmhaaGreatDoor
open Go.RowKit
set_option maxRecDepth 100000
def GlobE (w:World):Prop:=w.cell? ⟨3,0,none⟩=some (.iface 192 (.agg #[.pointer (some ⟨13,27,none⟩)]))
theorem GlobE.below {w w':World} (h:GlobE w) (hb:Below w.heap.size w w'):GlobE w':=cell_keep hb h
theorem takeD {P:Program} {ops:Array Oper} {Q:Exit→Act→World→Prop} {md:Region.Mode} {S:World→Prop} {i:Nat} {oi:Oper} {v:Value} {fuel:Nat} {listed:Array Bool} {a:Act} {w:World} (d:Option Tmp) (hi:ops[i]?=some oi) (hd:oi.dst=d)
 (hs:Region.noSelect ops=true) (hf:Region.free md ops listed i=true) (hr:(Region.ready md ops listed).contains i=true)
 (hQ:∀ c a w,Q (.panic c) (a.put d v) w→Q (.panic c) a w) (hy:YieldsIf P ops S oi v a) (hS:S w)
 (h:wpAnyH P md ops Q S fuel (listed.setIfInBounds i true) (a.put d v) w):wpAnyH P md ops Q S (fuel+1) listed a w:=by
 subst hd
 exact wpAnyH_take hi hs hf hr hQ hy hS h
theorem takeA {P:Program} {ops:Array Oper} {Q:Exit→Act→World→Prop} {md:Region.Mode} {i:Nat} {oi:Oper} {v:Value} {fuel:Nat} {listed:Array Bool} {a:Act} {w:World} (d:Option Tmp) (hi:ops[i]?=some oi) (hd:oi.dst=d)
 (hs:Region.noSelect ops=true) (hf:Region.free md ops listed i=true) (hr:(Region.ready md ops listed).contains i=true)
 (hQ:∀ c a w,Q (.panic c) (a.put d v) w→Q (.panic c) a w) (hy:Yields P ops oi v a)
 (h:wpAny P md ops Q fuel (listed.setIfInBounds i true) (a.put d v) w):wpAny P md ops Q (fuel+1) listed a w:=by
 subst hd
 exact wpAny_take hi hs hf hr hQ hy h
theorem pqD {P:Program} {ops:Array Oper} {Q:Exit→Act→World→Prop} {md:Region.Mode} {S:World→Prop} {oi:Oper} {v:Value} {fuel:Nat} {listed:Array Bool} {a a':Act} {w:World} (i:Nat) (d:Tmp) (hS:S w)
 (h:wpAnyH P md ops (NoPanic Q) S fuel (listed.setIfInBounds i true) a' w) (hi:ops[i]?=some oi:=by exact rfl) (hd:oi.dst=some d:=by exact rfl)
 (hs:Region.noSelect ops=true:=by kernel_rfl) (hf:Region.free md ops listed i=true:=by kernel_rfl) (hr:(Region.ready md ops listed).contains i=true:=by kernel_rfl)
 (hw:Region.wanted oi (yielded ops a.tmps)=true:=by rfl) (hy:∀ W,S W→(execOp a.eval oi).run P W=.ok (.value v) W:=by intro W' hs; (try subst hs); go_simp; (try with_reducible rfl)) (ha:a.put (some d) v=a':=by simp only [pq]; exact rfl) :
 wpAnyH P md ops (NoPanic Q) S (fuel+1) listed a w:=by
 subst ha; exact takeD (some d) hi hd hs hf hr (fun _ _ _ h=>h) (.inl ⟨hw,hy⟩) hS h
theorem pqA {P:Program} {ops:Array Oper} {Q:Exit→Act→World→Prop} {md:Region.Mode} {oi:Oper} {v:Value} {fuel:Nat} {listed:Array Bool} {a a':Act} {w:World} (i:Nat) (d:Tmp)
 (h:wpAny P md ops (NoPanic Q) fuel (listed.setIfInBounds i true) a' w) (hi:ops[i]?=some oi:=by exact rfl) (hd:oi.dst=some d:=by exact rfl)
 (hs:Region.noSelect ops=true:=by kernel_rfl) (hf:Region.free md ops listed i=true:=by kernel_rfl) (hr:(Region.ready md ops listed).contains i=true:=by kernel_rfl)
 (hw:Region.wanted oi (yielded ops a.tmps)=true:=by rfl) (hy:∀ W,(execOp a.eval oi).run P W=.ok (.value v) W:=by intro W'; go_simp; (try with_reducible rfl)) (ha:a.put (some d) v=a':=by simp only [pq]; exact rfl) :
 wpAny P md ops (NoPanic Q) (fuel+1) listed a w:=by
 subst ha; exact takeA (some d) hi hd hs hf hr (fun _ _ _ h=>h) (.inl ⟨hw,hy⟩) h
end Go.Proofs.YtkaoebokbfcmhaaGreatDoor
namespace Go.Proofs.YtkaoebokbfcmhaaGreatDoor
open Go.RowKit
set_option maxRecDepth 100000
theorem Box3.belowB {B:Nat} {w w':World} {b:Nat} {x0 x1 x2:Value} (h:Box3 w b x0 x1 x2) (hb:Below B w w') (hlt:b<B):Box3 w' b x0 x1 x2:=by
 obtain ⟨⟨h0,h1,h2⟩,f0,f1,f2⟩:=h
 exact ⟨⟨(hb.cell (p:=⟨b,0,none⟩) hlt).trans h0,(hb.cell (p:=⟨b,1,none⟩) hlt).trans h1,(hb.cell (p:=⟨b,2,none⟩) hlt).trans h2⟩,(hb.frozen (p:=⟨b,0,none⟩) hlt).trans f0,(hb.frozen (p:=⟨b,1,none⟩) hlt).trans f1,(hb.frozen (p:=⟨b,2,none⟩) hlt).trans f2⟩
theorem Box3.far {w:World} {b b':Nat} {x0 x1 x2:Value} (h:Box3 w b x0 x1 x2) (hne:b'≠b) (i:Nat) (u:Value):Box3 (w.setCell ⟨b',i,none⟩ u) b x0 x1 x2:=by
 obtain ⟨⟨h0,h1,h2⟩,f0,f1,f2⟩:=h
 refine ⟨⟨?_,?_,?_⟩,?_,?_,?_⟩
 ·rw [World.cell?_setCell_far _ _ _ _ hne]; exact h0
 ·rw [World.cell?_setCell_far _ _ _ _ hne]; exact h1
 ·rw [World.cell?_setCell_far _ _ _ _ hne]; exact h2
 ·simpa using f0
 ·simpa using f1
 ·simpa using f2
theorem Box3.set2 {w:World} {b:Nat} {x0 x1 x2:Value} (h:Box3 w b x0 x1 x2) (u:Value):Box3 (w.setCell ⟨b,2,none⟩ u) b x0 x1 u:=by
 obtain ⟨⟨h0,h1,h2⟩,f0,f1,f2⟩:=h
 refine ⟨⟨?_,?_,World.cell?_setCell_same _ _ _ h2⟩,?_,?_,?_⟩
 ·rw [World.cell?_setCell_other _ _ _ _ (by simp)]; exact h0
 ·rw [World.cell?_setCell_other _ _ _ _ (by simp)]; exact h1
 ·simpa using f0
 ·simpa using f1
 ·simpa using f2
theorem LentI.setBelow {B:Nat} {w:World} {m:Value} {xs:List Int} (h:LentI B w m xs) {a:Addr} (ha:a.block<B) (u:Value):LentI B (w.setCell a u) m xs:=by
 obtain ⟨v,e,ho⟩:=h
 exact ⟨v,e,ho.setBelowBase ha u⟩
theorem LentI.mono {B B':Nat} {w:World} {m:Value} {xs:List Int} (h:LentI B w m xs) (hB:B'≤B):LentI B' w m xs:=by
 obtain ⟨v,e,ho⟩:=h
 exact ⟨v,e,ho.mono hB⟩
theorem cell_far {w:World} {b i:Nat} {a:Addr} (h:a.block≠b) (u:Value):(w.setCell ⟨b,i,none⟩ u).cell? a=w.cell? a :=
 World.cell?_setCell_other _ _ _ _ (by intro e; rw [← e] at h; exact h rfl)
theorem ErrAt.set {r:Nat→Addr} {w:World} {n:Int} {b i:Nat} (hs:∀ s,w.cell? ⟨b,0,none⟩≠some (.string s)) (u:Value) :
 ∀ {l:List (ByteArray×Int)} {v:Value},ErrAt r w n l v→ErrAt r (w.setCell ⟨b,i,none⟩ u) n l v
 | [],_,h=>h
 | (op,at_)::rest,v,⟨p,u',e,c0,c1,c2,h⟩=>by
  have hp:p≠b:=by rintro rfl; exact hs _ c0
  exact ⟨p,u',e,by rw [cell_far hp]; exact c0,by rw [cell_far hp]; exact c1,by rw [cell_far hp]; exact c2,ErrAt.set hs u h⟩
theorem ErrIs.set {r:Nat→Addr} {w:World} {t:PErr} {v:Value} {b i:Nat} (h:ErrIs r w t v) (hs:∀ s,w.cell? ⟨b,0,none⟩≠some (.string s)) (u:Value):ErrIs r (w.setCell ⟨b,i,none⟩ u) t v:=by
 match t,h with
 | none,h=>exact h
 | some (n,l),h=>exact ErrAt.set hs u h
end Go.Proofs.YtkaoebokbfcmhaaGreatDoor
