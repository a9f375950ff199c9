/-
  Proved: the law edentop.WholeRings as its tied card: it returns true and never panics, for any rule, word and number. No conditions beyond the cards own.
-/
import Derived.Test.YtkaoebokbfcmhaaGreatDoorMWr10
import Derived.Test.YtkaoebokbfcmhaaGreatDoorRows
import Derived.ProofKit
import Derived.OpenShut
import Derived.ShutString
import Derived.ChangeOld
import Derived.LaidMore
import Derived.Stop.Joined
import Derived.Stop.LaidErr
import Derived.Lib.SmallJoins
import Derived.LaidHandle
import Derived.Test.YtkaoebokbfcmhaaGreatDoorCards
import Derived.Test.YtkaoebokbfcmhaaGreatDoorTie
import Derived.SevenTiedAt
namespace Go.Proofs.YtkaoebokbfcmhaaGreatDoor
def LiveP (n:Nat) (adj:Nat→List Nat) (v:Nat):Prop:=(∃ u,u<n∧(∃ t∈adj u,Goes adj t u)∧Goes adj u v)∧∃ u,u<n∧(∃ t∈adj u,Goes adj t u)∧Goes adj v u
def Steps (adj:Nat→List Nat) (l:List Nat):Prop:=∀ i,i+1<l.length→l.getD (i+1) 0∈adj (l.getD i 0)
theorem getD_left {l:List Nat} {y i:Nat} (h:i<l.length):(l++[y]).getD i 0=l.getD i 0:=by
 rw [List.getD_eq_getElem?_getD,List.getElem?_append_left h,← List.getD_eq_getElem?_getD]
theorem getD_last {l:List Nat} {y i:Nat} (h:i=l.length):(l++[y]).getD i 0=y:=by
 subst h; simp [List.getD]
theorem Steps.snoc {adj:Nat→List Nat} {l:List Nat} {x y:Nat} (h:Steps adj l) (hx:l.getD (l.length-1) 0=x) (hy:y∈adj x):Steps adj (l++[y]):=by
 intro i hi
 simp only [List.length_append,List.length_singleton] at hi
 by_cases e:i+1=l.length
 ·rw [getD_last e,getD_left (by omega),show i=l.length-1 by omega,hx]; exact hy
 ·rw [getD_left (by omega),getD_left (by omega)]; exact h i (by omega)
theorem Goes.head {adj:Nat→List Nat} {x z:Nat} (h:Goes adj x z):x=z∨∃ y∈adj x,Goes adj y z:=by
 induction h with
 | refl=>exact .inl rfl
 | step h hz ih =>
  rcases ih with rfl | ⟨t,ht,hg⟩
  ·exact .inr ⟨_,hz,.refl _⟩
  ·exact .inr ⟨t,ht,.step hg hz⟩
theorem ways_into {M:Nat} {adj:Nat→List Nat} (hc:∀ x,x<M→∀ t∈adj x,t<M) (a:Nat):∀ v,(∃ u,u<M∧(∃ t∈adj u,Goes adj t u)∧Goes adj u v) →
 ∃ l,l.length=a+1∧l.getD a 0=v∧Steps adj l∧∀ x∈l,x<M:=by
 have low:∀ {u v},u<M→Goes adj u v→v<M:=fun hu h=>Goes.closed (P:=(·<M)) hc h hu
 induction a with
 | zero =>
  rintro v ⟨u,hu,_,hg⟩
  exact ⟨[v],rfl,rfl,fun i hi=>by simp at hi,fun x hx=>by rw [List.mem_singleton] at hx; subst hx; exact low hu hg⟩
 | succ a ih =>
  rintro v ⟨u,hu,hl,hg⟩
  have hv:=low hu hg
  have key:∃ y,v∈adj y∧∃ u,u<M∧(∃ t∈adj u,Goes adj t u)∧Goes adj u y:=by
   cases hg with
   | refl =>
    obtain ⟨t,ht,hgt⟩:=hl
    cases hgt with
    | refl=>exact ⟨_,ht,_,hu,⟨_,ht,.refl _⟩,.refl _⟩
    | step h2 hz=>exact ⟨_,hz,_,hu,⟨t,ht,.step h2 hz⟩,(Goes.one ht).trans h2⟩
   | step h2 hz=>exact ⟨_,hz,_,hu,hl,h2⟩
  obtain ⟨y,hy,hu2⟩:=key
  obtain ⟨l,l1,l2,l3,l4⟩:=ih y hu2
  refine ⟨l++[v],by simp [l1],getD_last l1.symm,l3.snoc (by rw [l1,Nat.add_sub_cancel]; exact l2) hy,fun x hx=>?_⟩
  rcases List.mem_append.1 hx with hx | hx
  ·exact l4 x hx
  ·rw [List.mem_singleton] at hx; subst hx; exact hv
theorem ways_through {M:Nat} {adj:Nat→List Nat} (hc:∀ x,x<M→∀ t∈adj x,t<M) {v:Nat} (h:LiveP M adj v) (a m:Nat) :
 ∃ l,l.length=a+1+m∧l.getD a 0=v∧Steps adj l∧(∀ x∈l,x<M)∧∃ u,u<M∧(∃ t∈adj u,Goes adj t u)∧Goes adj (l.getD (a+m) 0) u:=by
 induction m with
 | zero =>
  obtain ⟨l,l1,l2,l3,l4⟩:=ways_into hc a v h.1
  exact ⟨l,l1,l2,l3,l4,by rw [Nat.add_zero,l2]; exact h.2⟩
 | succ m ih =>
  obtain ⟨l,l1,l2,l3,l4,u,hu,ht,hg⟩:=ih
  obtain ⟨x,hx⟩:∃ x,l.getD (a+m) 0=x:=⟨_,rfl⟩
  have hxM:x<M:=l4 x (by rw [← hx,List.getD_eq_getElem?_getD,List.getElem?_eq_getElem (by omega),Option.getD_some]; exact List.getElem_mem _)
  rw [hx] at hg
  have key:∃ y∈adj x,∃ u,u<M∧(∃ t∈adj u,Goes adj t u)∧Goes adj y u:=by
   rcases hg.head with rfl | ⟨y,hy,hg2⟩
   ·obtain ⟨t,ht1,ht2⟩:=ht
    exact ⟨t,ht1,x,hu,⟨t,ht1,ht2⟩,ht2⟩
   ·exact ⟨y,hy,u,hu,ht,hg2⟩
  obtain ⟨y,hy,hu2⟩:=key
  refine ⟨l++[y],by simp [l1]; omega,by rw [getD_left (by omega)]; exact l2,l3.snoc (by rw [l1,show a+1+m-1=a+m by omega]; exact hx) hy,fun z hz=>?_,?_⟩
  ·rcases List.mem_append.1 hz with hz | hz
   ·exact l4 z hz
   ·rw [List.mem_singleton] at hz; subst hz; exact hc x hxM z hy
  ·rw [getD_last (by omega)]; exact hu2
theorem node_ne {K m:Nat} {x y:List Int} {i:Nat} (hx:i+m≤x.length) (hy:i+m≤y.length) (h:nodeAt K m x i≠nodeAt K m y i):∃ j,j<m∧x.getD (i+j) 0≠y.getD (i+j) 0:=by
 apply Classical.byContradiction
 intro q
 apply h
 unfold nodeAt
 congr 1
 refine ext_getD (by simp; omega) fun t ht=>?_
 have ht2:t<m:=by simp only [List.length_take] at ht; omega
 rw [sub_get ht2,sub_get ht2]
 exact Classical.byContradiction fun q2=>q ⟨t,ht2,q2⟩
theorem pairL_closed {K N:Nat} (hN:0<N) {T:List Int}:∀ x,x<N*N→∀ t∈pairL K N T x,t<N*N:=fun _ _ _ ht=>((mem_pairL hN).1 ht).lt hN
theorem notOne_of_live {K R:Nat} {T:List Int} (h:RuleOk K R T) (hR:1≤R) {p:Nat} (hp:LiveP (pw K (2*R)*pw K (2*R)) (pairL K (pw K (2*R)) T) p) (hd:¬ Diag (pw K (2*R)) p):NotOne K R T:=by
 intro n
 have hK:=h.k1
 have hN:=pw_pos (K:=K) (2*R) hK
 obtain ⟨l,l1,l2,l3,l4,-⟩:=ways_through (pairL_closed (by omega)) hp n n
 have low:∀ i,i<l.length→l.getD i 0<pw K (2*R)*pw K (2*R):=fun i hi=>l4 _ (by
  rw [List.getD_eq_getElem?_getD,List.getElem?_eq_getElem hi,Option.getD_some]; exact List.getElem_mem _)
 obtain ⟨hn,hi⟩:=ways_words hK hR (by omega) low l3
 have la:=alongW_len K (2*R) (·/pw K (2*R)) l
 have lb:=alongW_len K (2*R) (·%pw K (2*R)) l
 obtain ⟨e1,e2⟩:=hn n (by omega)
 rw [l2] at e1 e2
 obtain ⟨j,hj,hne⟩:=node_ne (K:=K) (m:=2*R) (x:=alongW K (2*R) (·/pw K (2*R)) l) (y:=alongW K (2*R) (·%pw K (2*R)) l) (i:=n) (by omega) (by omega) (by rw [e1,e2]; exact hd)
 exact split_img (alongW_syms hK _ _) (alongW_syms hK _ _) (by omega) (j:=n+j) (by omega) (by omega) hne hi
theorem pigeon {M:Nat} {f:Nat→Nat} (h:∀ i,i≤M→f i<M):∃ i j,i<j∧j≤M∧f i=f j:=by
 apply Classical.byContradiction
 intro q
 have hn:((List.range (M+1)).map f).Nodup:=by
  refine List.pairwise_map.2 (List.Pairwise.imp_of_mem ?_ List.pairwise_lt_range)
  intro a b ha hb hab e
  exact q ⟨a,b,hab,by have:=List.mem_range.1 hb; omega,e⟩
 have hs:(List.range (M+1)).map f ⊆ List.range M:=fun y hy=>by
  obtain ⟨i,hi,rfl⟩:=List.mem_map.1 hy
  exact List.mem_range.2 (h i (by have:=List.mem_range.1 hi; omega))
 have:=nodup_sub hn hs
 simp at this
 omega
theorem goes_along {adj:Nat→List Nat} {f:Nat→Nat} {a:Nat}:∀ d,(∀ k,a≤k→k<a+d→f (k+1)∈adj (f k))→Goes adj (f a) (f (a+d))
 | 0,_=>.refl _
 | d+1,h=>.step (goes_along d fun k h1 h2=>h k h1 (by omega)) (h (a+d) (by omega) (by omega))
theorem live_of_notOne {K R:Nat} {T:List Int} (h:RuleOk K R T) (hR:1≤R) (ho:NotOne K R T):∃ p,p<pw K (2*R)*pw K (2*R)∧LiveP (pw K (2*R)*pw K (2*R)) (pairL K (pw K (2*R)) T) p∧¬ Diag (pw K (2*R)) p:=by
 have hK:=h.k1
 have hN:=pw_pos (K:=K) (2*R) hK
 obtain ⟨M,hM⟩:∃ M,pw K (2*R)*pw K (2*R)=M:=⟨_,rfl⟩
 obtain ⟨n,hn⟩:∃ n,M+2*R=n:=⟨_,rfl⟩
 obtain ⟨x,y,sx,sy,lx,ly,hne,e⟩:=ho n
 obtain ⟨f,hf⟩:∃ f:Nat→Nat,f=fun i=>nodeAt K (2*R) x i*pw K (2*R)+nodeAt K (2*R) y i:=⟨_,rfl⟩
 have nx:∀ i,i+2*R≤2*n+1→nodeAt K (2*R) x i<pw K (2*R):=fun i hi=>node_lt sx (by omega)
 have ny:∀ i,i+2*R≤2*n+1→nodeAt K (2*R) y i<pw K (2*R):=fun i hi=>node_lt sy (by omega)
 have low:∀ i,i+2*R≤2*n+1→f i<M:=fun i hi=>by rw [hf,← hM]; exact pair_lt (nx i hi) (ny i hi)
 have step:∀ i,i+1+2*R≤2*n+1→f (i+1)∈pairL K (pw K (2*R)) T (f i):=fun i hi=>by
  rw [mem_pairL (by omega),hf]
  show Arr K _ T ((nodeAt K (2*R) x i*pw K (2*R)+nodeAt K (2*R) y i)/pw K (2*R)) ((nodeAt K (2*R) x i*pw K (2*R)+nodeAt K (2*R) y i)%pw K (2*R)) _
  rw [pair_div (ny i (by omega)),pair_mod (ny i (by omega))]
  exact wayW_arr sx sy (by omega) e (by omega)
 have goes:∀ a b,a≤b→b+2*R≤2*n+1→Goes (pairL K (pw K (2*R)) T) (f a) (f b):=fun a b hab hb=>by
  obtain ⟨d,rfl⟩:∃ d,b=a+d:=⟨b-a,by omega⟩
  exact goes_along d fun k _ _=>step k (by omega)
 refine ⟨f n,by rw [hM]; exact low n (by omega),⟨?_,?_⟩,?_⟩
 ·obtain ⟨i,j,hij,hj,eij⟩:=pigeon (M:=M) (f:=f) fun i hi=>low i (by omega)
  exact ⟨f i,by rw [hM]; exact low i (by omega),⟨f (i+1),step i (by omega),by rw [eij]; exact goes _ _ (by omega) (by omega)⟩,goes _ _ (by omega) (by omega)⟩
 ·obtain ⟨i,j,hij,hj,eij⟩:=pigeon (M:=M) (f:=fun i=>f (n+i)) fun i hi=>low (n+i) (by omega)
  exact ⟨f (n+i),by rw [hM]; exact low _ (by omega),⟨f (n+i+1),step _ (by omega),by show Goes _ _ (f (n+i)); rw [show f (n+i)=f (n+j) from eij]; exact goes _ _ (by omega) (by omega)⟩,goes _ _ (by omega) (by omega)⟩
 ·intro hd
  unfold Diag at hd
  rw [hf] at hd
  dsimp only at hd
  rw [pair_div (ny n (by omega)),pair_mod (ny n (by omega))] at hd
  have e1:=digs_numW hK _ (syms_take (syms_drop sx n) (2*R))
  have e2:=digs_numW hK _ (syms_take (syms_drop sy n) (2*R))
  rw [show ((x.drop n).take (2*R)).length=2*R by simp; omega] at e1
  rw [show ((y.drop n).take (2*R)).length=2*R by simp; omega] at e2
  have e3:(x.drop n).take (2*R)=(y.drop n).take (2*R):=by rw [← e1,← e2]; exact congrArg (digs K (2*R)) hd
  have e4:((x.drop n).take (2*R)).getD 0 0=((y.drop n).take (2*R)).getD 0 0:=by rw [e3]
  rw [sub_get (by omega),sub_get (by omega),Nat.add_zero] at e4
  exact hne e4
open Go.RowKit
set_option maxRecDepth 100000
set_option maxHeartbeats 8000000
abbrev zRow:Value:=.agg #[.int .i64 0,.slice none 0 0,.slice none 0 0,.slice none 0 0]
section
variable {K N:Nat} {T:List Int}
theorem goes_pairG {x y:Nat} (hN:0<N) (h:Goes (adjOf (pairG K N T)) x y) (hx:x<N*N):Goes (pairL K N T) x y∧y<N*N:=by
 induction h with
 | refl=>exact ⟨.refl _,hx⟩
 | step h hz ih =>
  rw [pairG_adj ih.2] at hz
  exact ⟨.step ih.1 hz,((mem_pairL hN).1 hz).lt hN⟩
theorem live_pairG (hN:0<N) {v:Nat} (hv:v<N*N):IsLive (N*N) (adjOf (pairG K N T)) v↔LiveP (N*N) (pairL K N T) v:=by
 constructor
 ·rintro ⟨⟨u,hu,⟨t,ht,h1⟩,h2⟩,⟨u',hu',⟨t',ht',h1'⟩,h2'⟩⟩
  rw [pairG_adj hu] at ht
  rw [pairG_adj hu'] at ht'
  exact ⟨⟨u,hu,⟨t,ht,(goes_pairG hN h1 (((mem_pairL hN).1 ht).lt hN)).1⟩,(goes_pairG hN h2 hu).1⟩,⟨u',hu',⟨t',ht',(goes_pairG hN h1' (((mem_pairL hN).1 ht').lt hN)).1⟩,(goes_pairG hN h2' hv).1⟩⟩
 ·rintro ⟨⟨u,hu,⟨t,ht,h1⟩,h2⟩,⟨u',hu',⟨t',ht',h1'⟩,h2'⟩⟩
  exact ⟨⟨u,hu,⟨t,by rw [pairG_adj hu]; exact ht,(pairG_goes hN h1 (((mem_pairL hN).1 ht).lt hN)).1⟩,(pairG_goes hN h2 hu).1⟩,⟨u',hu',⟨t',by rw [pairG_adj hu']; exact ht',(pairG_goes hN h1' (((mem_pairL hN).1 ht').lt hN)).1⟩,(pairG_goes hN h2' hv).1⟩⟩
end
theorem wk_notOne {K R:Nat} {T:List Int} (hK:1≤K):NotOne K (wkR R) (wkT K R T)↔NotOne K R T:=by
 unfold wkR wkT
 by_cases e:R=0
 ·subst e; rw [if_pos rfl,if_pos rfl]; exact notOne_wide (R:=0) (d:=1) hK
 ·rw [if_neg e,if_neg e]
def oddL (K R:Nat) (L:List Nat):List Nat:=L.filter fun p=>!decide (Diag (pw K (2*wkR R)) p)
theorem odd_none {K R:Nat} {T:List Int} {L:List Nat} (hr:RuleOk K R T) (h:LiveList (pw K (2*wkR R)*pw K (2*wkR R)) (adjOf (pairG K (pw K (2*wkR R)) (wkT K R T))) L):oddL K R L=[]↔¬ NotOne K R T:=by
 have hN:=pw_pos (K:=K) (2*wkR R) hr.k1
 rw [← wk_notOne hr.k1]
 constructor
 ·intro he hno
  obtain ⟨q,h1,h2,h3⟩:=live_of_notOne (wk_ok hr) (wk_pos R) hno
  have:q∈oddL K R L:=List.mem_filter.2 ⟨(h.mem q).2 ⟨h1,(live_pairG (by omega) h1).2 h2⟩,by simp [h3]⟩
  rw [he] at this; cases this
 ·intro hno
  apply Classical.byContradiction
  intro he
  obtain ⟨q,hq⟩:=List.exists_mem_of_ne_nil _ he
  obtain ⟨h1,h2⟩:=List.mem_filter.1 hq
  obtain ⟨h3,h4⟩:=(h.mem q).1 h1
  exact hno (notOne_of_live (wk_ok hr) (wk_pos R) ((live_pairG (by omega) h3).1 h4) (by simpa using h2))
def OneIs (K R:Nat) (T:List Int) (L C Q:List Nat):Prop :=
 ∃ l v m,LiveList (pw K (2*wkR R)*pw K (2*wkR R)) (adjOf (pairG K (pw K (2*wkR R)) (wkT K R T))) l∧oddL K R l=v::m∧WitIs (pairG K (pw K (2*wkR R)) (wkT K R T)) v L C Q
theorem OneIs.unique {K R:Nat} {T:List Int} {L C Q L' C' Q':List Nat} (h:OneIs K R T L C Q) (k:OneIs K R T L' C' Q'):L=L'∧C=C'∧Q=Q':=by
 obtain ⟨l,v,m,h1,h2,h3⟩:=h
 obtain ⟨l',v',m',k1,k2,k3⟩:=k
 obtain rfl:=h1.unique k1
 rw [h2] at k2
 injection k2 with e _
 subst e
 exact h3.unique k3
def OnePost (w:World) (K R:Nat) (T:List Int) (yes x y e:Value) (w':World):Prop :=
 e=.nilIface∧((yes=.bool true∧x=zRow∧y=zRow∧¬ NotOne K R T)∨(yes=.bool false∧NotOne K R T∧∃ L C Q aL aC aQ bL bC bQ,OneIs K R T L C Q∧x=.agg #[.int .i64 0,aL,aC,aQ]∧y=.agg #[.int .i64 0,bL,bC,bQ]∧∃ f,Rows w.heap.size w' f ∧
  f (1,0)=some (rowI aL (sideA K (pw K (2*wkR R)) L))∧f (1,1)=some (rowI bL (sideB K (pw K (2*wkR R)) L))∧f (2,0)=some (rowI aC (sideA K (pw K (2*wkR R)) C))∧f (2,1)=some (rowI bC (sideB K (pw K (2*wkR R)) C))∧f (3,0)=some (rowI aQ (sideA K (pw K (2*wkR R)) Q))∧f (3,1)=some (rowI bQ (sideB K (pw K (2*wkR R)) Q))))
theorem one_ok (r:Nat→Addr) (K R:Nat) (va:Option Addr) (vn vc:Nat) (T:List Int) (w:World) (hg:Glob r w) (h:IntsAt w (.slice va vn vc) T) (hr:RuleOk K R T) (hl:T.length≤256) :
 Calls Tryz.prog 15 #[.agg #[.int .i64 K,.int .i64 R,.slice va vn vc]] w (Ret4 (OnePost w K R T) w):=by
 have bb:=belowAlloc w (.cells #[.int .i64 K,.int .i64 R,.slice va vn vc] 24)
 have q:Box3 (w.alloc (.cells #[.int .i64 K,.int .i64 R,.slice va vn vc] 24)) w.heap.size (.int .i64 K) (.int .i64 R) (.slice va vn vc):=by simp [Box3,go_sem]
 obtain ⟨f0,R0,n02,o02⟩:=((Rows.void w.heap.size w).below bb).box4 (0,2) (by simp) 42 (.int .i64 0) (.slice none 0 0) (.slice none 0 0) (.slice none 0 0)
 obtain ⟨f1,R1,n03,o03⟩:=R0.box4 (0,3) (by simp; omega) 42 (.int .i64 0) (.slice none 0 0) (.slice none 0 0) (.slice none 0 0)
 replace n02:=(o03 (0,2) (by decide)).trans n02
 simp only [World.size_alloc] at n02 n03
 have b0:Below w.heap.size w (((w.alloc (.cells #[.int .i64 K,.int .i64 R,.slice va vn vc] 24)).alloc (.cells #[.int .i64 0,.slice none 0 0,.slice none 0 0,.slice none 0 0] 42)).alloc (.cells #[.int .i64 0,.slice none 0 0,.slice none 0 0,.slice none 0 0] 42)):=Below.step bb (Below.step (belowAlloc _ _) (belowAlloc _ _))
 replace q:=q.below (Below.step (belowAlloc _ (.cells #[.int .i64 0,.slice none 0 0,.slice none 0 0,.slice none 0 0] 42)) (belowAlloc _ (.cells #[.int .i64 0,.slice none 0 0,.slice none 0 0,.slice none 0 0] 42)))
 clear o02 o03 R0 bb
 have hk1:=hr.k1
 have hokW:=wk_ok hr
 have hlW:=wk_small hr hl
 have hRW:=wk_pos R
 have hN81:=nodes_le hokW hRW hlW
 have hN1:=pw_pos (K:=K) (2*wkR R) hk1
 obtain ⟨hdiv,hlen⟩:=hokW.half
 have hNK:pw K (2*wkR R)*K≤256:=by rw [← hlen]; exact hlW
 have hck:=pairG_check (K:=K) (N:=pw K (2*wkR R)) (T:=wkT K R T) (by omega) hN81 hNK
 have hokG:GraphOk (pairG K (pw K (2*wkR R)) (wkT K R T)):=pairG_ok (by omega)
 have hsz:∀ k,k<(pairG K (pw K (2*wkR R)) (wkT K R T)).length→((pairG K (pw K (2*wkR R)) (wkT K R T)).getD k []).length≤17592186044416:=fun k hk=>by
  rw [pairG_len] at hk
  rw [pairG_row hk,castI_len]
  have:=pairL_len K (pw K (2*wkR R)) (wkT K R T) k
  have h4:=hr.k4
  have:=Nat.mul_le_mul h4 h4
  omega
 have hgraph:=fun (w':World) (hgl:Glob r w') (hT:IntsAt w' (.slice va vn vc) T)=>pgraph_ok r K R va vn vc T w' hgl hT hr hl
 have hapart:=fun (w':World) (hgl:Glob r w') (hT:IntsAt w' (.slice va vn vc) T)=>papart_ok r K R va vn vc T w' hgl hT hr hl
 have hlenG:=pairG_len (K:=K) (N:=pw K (2*wkR R)) (T:=wkT K R T)
 have hodd:=fun (L:List Nat) (hL:LiveList (pw K (2*wkR R)*pw K (2*wkR R)) (adjOf (pairG K (pw K (2*wkR R)) (wkT K R T))) L)=>odd_none hr hL
 have hone:∀ (l:List Nat) (v:Nat) (m L C Q:List Nat),LiveList (pw K (2*wkR R)*pw K (2*wkR R)) (adjOf (pairG K (pw K (2*wkR R)) (wkT K R T))) l→oddL K R l=v::m→WitIs (pairG K (pw K (2*wkR R)) (wkT K R T)) v L C Q→OneIs K R T L C Q:=fun l v m L C Q h1 h2 h3=>⟨l,v,m,h1,h2,h3⟩
 have hsub:∀ (L:List Nat) (v:Nat) (m:List Nat),oddL K R L=v::m→v∈L:=fun L v m e=>(List.mem_filter.1 (show v∈oddL K R L by rw [e]; exact List.mem_cons_self)).1
 have hwit:=fun (ga:Option Addr) (gc v:Nat) (w':World) (hgl:Glob r w') (hT:ListsAt w' (.slice ga (pairG K (pw K (2*wkR R)) (wkT K R T)).length gc) (pairG K (pw K (2*wkR R)) (wkT K R T))) (hv:v<(pairG K (pw K (2*wkR R)) (wkT K R T)).length) (hli:IsLive (pairG K (pw K (2*wkR R)) (wkT K R T)).length (adjOf (pairG K (pw K (2*wkR R)) (wkT K R T))) v)=>witness_ok r K (pw K (2*wkR R)) ga gc _ v w' hgl hT hsz hck hokG hlenG hN1 hN81 hk1 hv hli
 replace hgraph:=Hd hgraph
 replace hapart:=Hd hapart
 replace hodd:=Hd hodd
 replace hone:=Hd hone
 replace hsub:=Hd hsub
 replace hwit:=Hd hwit
 replace hlenG:=Hd hlenG
 clear hdiv hlen hNK hck hokG hsz hokW hlW hRW hN81 hl
 replace hg:=Hd (hg.below b0)
 replace h:=Hd (h.below b0)
 replace hr:=Hd hr
 obtain ⟨⟨z0,z1,z2⟩,-,-,-⟩:=q
 have q0:=z0
 replace R1:=Hd R1
 replace n02:=Hd n02
 replace n03:=Hd n03
 replace b0:=Hd b0
 go_enter Tryz.func15,Tryz.ntmps15
 go_wp2_with fail
 refine (hgraph.out _ hg.out h.out).mono ?_
 rintro e w1 ⟨gv,y,rfl,b1,rfl,fg,vals,hrows,hwn⟩
 have hL:ListsAt w1 gv (pairG K (pw K (2*wkR R)) (wkT K R T)):=hwn.lists hrows
 obtain ⟨ga,gc,rfl⟩:=hL.shape
 have c0:w1.cell? ⟨w.heap.size,0,none⟩=some (.int .i64 K):=by rw [b1.cell (World.block_lt_of_cell? _ _ z0)]; exact z0
 have c1:w1.cell? ⟨w.heap.size,1,none⟩=some (.int .i64 R):=by rw [b1.cell (World.block_lt_of_cell? _ _ z1)]; exact z1
 have c2:w1.cell? ⟨w.heap.size,2,none⟩=some (.slice va vn vc):=by rw [b1.cell (World.block_lt_of_cell? _ _ z2)]; exact z2
 have b01:=Below.step b0.out b1
 replace hL:=Hd hL
 clear hrows hwn z0 z1 z2
 rw [hlenG.out]
 generalize hM:pw K (2*wkR R)*pw K (2*wkR R)=M at *
 replace hM:=Hd hM
 go_wp2_with fail
 refine (hapart.out w1 (hg.out.below b1) (h.out.below b1)).mono ?_
 rintro e w2 ⟨av,y,rfl,b2,rfl,L,hLL,how⟩
 have how2:OwnI w1.heap.size w2 av (castI (oddL K R L)):=how
 clear how
 have hnone:=hodd.out L hLL
 have b12:=Below.step b1 b2
 have b02:=Below.step b01 b2
 have R2:=R1.out.below b12
 have k0:w2.cell? ⟨w.heap.size,0,none⟩=some (.int .i64 K):=by rw [b2.cell (World.block_lt_of_cell? _ _ c0)]; exact c0
 have lA:=how2.at.len
 rw [castI_len] at lA
 have hsubL:=hsub.out L
 have honeL:=fun v m L' C' Q' e k=>hone.out L v m L' C' Q' hLL e k
 have hmemL:=hLL.mem
 replace hLL:=Hd hLL
 replace hsubL:=Hd hsubL
 replace honeL:=Hd honeL
 replace hmemL:=Hd hmemL
 clear c0 c1 c2
 cases hod:oddL K R L with
 | nil =>
  rw [hod] at hnone how2 lA
  have hno:=hnone.1 rfl
  obtain ⟨aa,an,ac,rfl⟩:=how2.at.shape
  replace n02:=n02.out
  replace n03:=n03.out
  obtain ⟨g0,g1,g2,g3⟩:=R2.cells4 n02
  obtain ⟨h0,h1,h2,h3⟩:=R2.cells4 n03
  have fg0:=R2.frz4 n02 0
  have fh0:=R2.frz4 n03 0
  have fg1:=R2.frz4 n02 1
  have fh1:=R2.frz4 n03 1
  have fg2:=R2.frz4 n02 2
  have fh2:=R2.frz4 n03 2
  have fg3:=R2.frz4 n02 3
  have fh3:=R2.frz4 n03 3
  have c2:=R2.cells4 n02
  have c3:=R2.cells4 n03
  have lg0:=(R2.low4 n02).1
  have lh0:=(R2.low4 n03).1
  obtain ⟨f3,R3,m02,o3⟩:=R2.all4 n02 (.int .i64 0) (.slice none 0 0) (.slice none 0 0) (.slice none 0 0)
  have b15:=Below.all4 (g:=w.heap.size+1) b02 lg0 (.int .i64 0) (.slice none 0 0) (.slice none 0 0) (.slice none 0 0)
  have b16:=Below.all4 (g:=w.heap.size+2) b15 lh0 (.int .i64 0) (.slice none 0 0) (.slice none 0 0) (.slice none 0 0)
  replace hno:=Hd hno
  replace hod:=Hd hod
  replace how2:=Hd how2
  replace R2:=Hd R2
  replace R3:=Hd R3
  replace n02:=Hd n02
  replace n03:=Hd n03
  replace m02:=Hd m02
  clear o3 c2 c3 hnone
  go_wp2
  (try simp only [Exit.inBlock,Exit.then])
  refine bodyPost_ret (v:=.tuple #[.bool true,zRow,zRow,.nilIface]) (by simp [results,Tryz.results15,go_sem,g0,g1,g2,g3,h0,h1,h2,h3]) rfl ?_
  exact ⟨_,_,_,_,rfl,b16,rfl,.inl ⟨rfl,rfl,rfl,hno.out⟩⟩
 | cons v m =>
  rw [hod] at hnone how2 lA
  have hno:NotOne K R T:=Classical.byContradiction fun q=>by have:=hnone.2 q; cases this
  obtain ⟨aa,an,ac,rfl⟩:=how2.at.shape
  have hvL:=hsubL.out v m hod
  obtain ⟨hvM,hvl⟩:=(hmemL.out v).1 hvL
  have iA:∀ w',(Instr.indexAt 22 (.slice aa an ac) (.int .i64 0)).run Tryz.prog w'=.ok (.pointer (some (valAt (.slice aa an ac) 0))) w':=fun w'=>how2.at.idx 0 (by simp [castI]) w'
  have cA:=how2.at.cellD 0 (by simp [castI])
  rw [show (castI (v::m)).getD 0 0=(v:Int) from rfl] at cA
  have e0:(((v::m).length:Nat):Int)=(m.length:Int)+1:=by simp
  rw [e0] at lA
  have e1:((m.length:Int)+1==0)=false:=by rw [beq_eq_false_iff_ne]; omega
  have hwv:=fun (w':World) (hgl:Glob r w') (hT:ListsAt w' (.slice ga M gc) (pairG K (pw K (2*wkR R)) (wkT K R T)))=>hwit.out ga gc v w' hgl (by rw [hlenG.out]; exact hT) (by rw [hlenG.out]; exact hvM) (by rw [hlenG.out]; exact hvl)
  rw [hlenG.out] at hwv
  have hG2:=hg.out.below b12
  have hL2:ListsAt w2 (.slice ga M gc) (pairG K (pw K (2*wkR R)) (wkT K R T)):=by
   have:=hL.out.below b2
   rwa [hlenG.out] at this
  replace hwv:=Hd hwv
  replace hG2:=Hd hG2
  replace hL2:=Hd hL2
  replace hno:=Hd hno
  replace hvL:=Hd hvL
  replace hvl:=Hd hvl
  replace how2:=Hd how2
  replace R2:=Hd R2
  clear hnone e0
  generalize valAt (.slice aa an ac) 0=ra at *
  replace hod:=Hd hod
  go_upto_region 7 with fail
  go_cut [7,9,10] from 39 (fun s7 s9 s10 wx=>s7=.nilIface∧∃ (g9 g10:Nat) (L C Q:List Nat) (aL aC aQ bL bC bQ:Value) (f:Names),s9=.pointer (some ⟨g9,0,none⟩)∧s10=.pointer (some ⟨g10,0,none⟩)∧Below w.heap.size w wx∧WitIs (pairG K (pw K (2*wkR R)) (wkT K R T)) v L C Q∧Rows w.heap.size wx f∧f (0,2)=some (box4 42 (w.heap.size+1) [.int .i64 0,.slice none 0 0,.slice none 0 0,.slice none 0 0])∧f (0,3)=some (box4 42 (w.heap.size+2) [.int .i64 0,.slice none 0 0,.slice none 0 0,.slice none 0 0])∧f (9,0)=some (box4 42 g9 [.int .i64 0,aL,aC,aQ])∧f (9,1)=some (box4 42 g10 [.int .i64 0,bL,bC,bQ])∧f (1,0)=some (rowI aL (sideA K (pw K (2*wkR R)) L))∧f (1,1)=some (rowI bL (sideB K (pw K (2*wkR R)) L))∧f (2,0)=some (rowI aC (sideA K (pw K (2*wkR R)) C))∧f (2,1)=some (rowI bC (sideB K (pw K (2*wkR R)) C))∧f (3,0)=some (rowI aQ (sideA K (pw K (2*wkR R)) Q))∧f (3,1)=some (rowI bQ (sideB K (pw K (2*wkR R)) Q)))
  case first =>
   obtain ⟨W0,hW0⟩:∃ W0:World,W0=w2.drew:=⟨_,rfl⟩
   have b20:Below w2.heap.size w2 W0:=by rw [hW0]; exact (Below.refl _ _).drew
   have bW0:Below w.heap.size w W0:=by rw [hW0]; exact b02.drew
   have RW0:Rows w.heap.size W0 f1:=by rw [hW0]; exact R2.out.drew
   have hB0:=bW0.size
   have hS0:W0.cell? ⟨w.heap.size,0,none⟩=some (.int .i64 K)∧W0.cell? ra=some (.int .i64 v):=by rw [hW0]; exact ⟨k0,cA⟩
   have hlow:w.heap.size<w2.heap.size∧ra.block<w2.heap.size:=⟨World.block_lt_of_cell? _ _ k0,World.block_lt_of_cell? _ _ cA⟩
   replace n02:=n02.out
   replace n03:=n03.out
   refine wp_region_noPanic ?_
   refine wp_region_any (by kernel_rfl) ?_
   change wpAny _ _ _ _ _ _ _ (World.drew _)
   rw [← hW0]
   clear hW0 k0 cA b02 R2
   refine wpAny_of_held (S:=fun w'=>w'.cell? ⟨w.heap.size,0,none⟩=some (.int .i64 K)∧w'.cell? ra=some (.int .i64 v)) _ _ _ _ ?_
   refine pqD 0 40 hS0 ?_
   refine pqD 1 41 hS0 ?_
   refine pqD 2 42 hS0 ?_
   refine pqD 3 43 hS0 ?_
   refine pqD 4 44 hS0 ?_
   refine pqD 5 45 hS0 ?_
   refine wpAnyH_ready (rs:=[6,11,12]) (by kernel_rfl) (by simp) (AllReadyH.cons rfl (fun KK hK=>?_) (AllReadyH.cons rfl (fun KK hK=>?_) (AllReadyH.cons rfl (fun KK hK=>?_) (AllReadyH.nil))))
   ·go_simp
    refine (hwv.out W0 (hG2.out.below b20) (hL2.out.below b20)).mono ?_
    rintro e W1 ⟨x,y,z,rfl,bb,hz,L',C',Q',aL,aC,aQ,bL,bC,bQ,hwi,rfl,rfl,fw,Rw,k10,k11,k20,k21,k30,k31⟩
    subst hz
    obtain ⟨aLa,aLn,aLc,haL⟩:=(Rw.ownI k10).at.shape
    subst haL
    obtain ⟨bLa,bLn,bLc,hbL⟩:=(Rw.ownI k11).at.shape
    subst hbL
    obtain ⟨aCa,aCn,aCc,haC⟩:=(Rw.ownI k20).at.shape
    subst haC
    obtain ⟨bCa,bCn,bCc,hbC⟩:=(Rw.ownI k21).at.shape
    subst hbC
    obtain ⟨aQa,aQn,aQc,haQ⟩:=(Rw.ownI k30).at.shape
    subst haQ
    obtain ⟨bQa,bQn,bQc,hbQ⟩:=(Rw.ownI k31).at.shape
    subst hbQ
    obtain ⟨f1,RW1,sel,oth⟩:=RW0.merge (fun i=>decide (i.1=1∨i.1=2∨i.1=3)) bb Rw hB0
    replace n02:=(oth (0,2) (by decide)).trans n02
    replace n03:=(oth (0,3) (by decide)).trans n03
    have n10:=(sel (1,0) (by decide)).trans k10
    have n11:=(sel (1,1) (by decide)).trans k11
    have n20:=(sel (2,0) (by decide)).trans k20
    have n21:=(sel (2,1) (by decide)).trans k21
    have n30:=(sel (3,0) (by decide)).trans k30
    have n31:=(sel (3,1) (by decide)).trans k31
    replace hwi:=Hd hwi
    clear sel oth k10 k11 k20 k21 k30 k31 Rw
    have bW1:=bW0.trans (bb.mono hB0)
    have b21:=Below.step b20 bb
    have hB1:=bW1.size
    have hS1:W1.cell? ⟨w.heap.size,0,none⟩=some (.int .i64 K)∧W1.cell? ra=some (.int .i64 v):=⟨by rw [b21.cell hlow.1,← b20.cell hlow.1]; exact hS0.1,by rw [b21.cell hlow.2,← b20.cell hlow.2]; exact hS0.2⟩
    refine hK.out _ _ hS1 fun _=>?_
    clear hK KK bb RW0
    refine pqD 7 39 hS1 ?_
    refine pqD 8 47 hS1 ?_
    refine pqD 9 48 hS1 ?_
    refine pqD 10 49 hS1 ?_
    refine wpAnyH_ready (rs:=[11,12]) (by kernel_rfl) (by simp) (AllReadyH.cons rfl (fun KK hK=>?_) (AllReadyH.cons rfl (fun KK hK=>?_) (AllReadyH.nil)))
    ·go_simp
     obtain ⟨f2,RW2,n90,oo⟩:=RW1.box4 (9,0) hB1 42 (.int .i64 0) (.slice none 0 0) (.slice none 0 0) (.slice none 0 0)
     replace n02:=(oo (0,2) (by decide)).trans n02
     replace n03:=(oo (0,3) (by decide)).trans n03
     replace n10:=(oo (1,0) (by decide)).trans n10
     replace n11:=(oo (1,1) (by decide)).trans n11
     replace n20:=(oo (2,0) (by decide)).trans n20
     replace n21:=(oo (2,1) (by decide)).trans n21
     replace n30:=(oo (3,0) (by decide)).trans n30
     replace n31:=(oo (3,1) (by decide)).trans n31
     have bb:=belowAlloc W1 (.cells #[.int .i64 0,.slice none 0 0,.slice none 0 0,.slice none 0 0] 42)
     obtain ⟨gb9,hgb9⟩:∃ g,W1.heap.size=g:=⟨_,rfl⟩
     obtain ⟨W2,hW2⟩:∃ W':World,W1.alloc (.cells #[.int .i64 0,.slice none 0 0,.slice none 0 0,.slice none 0 0] 42)=W':=⟨_,rfl⟩
     have lgb9:w2.heap.size≤gb9:=by rw [← hgb9]; exact b21.size
     have bW2:=bW1.trans (bb.mono hB1)
     have b22:=Below.step b21 bb
     rw [hW2] at RW2 bW2 b22 bb
     have hB2:=bW2.size
     have hS2:W2.cell? ⟨w.heap.size,0,none⟩=some (.int .i64 K)∧W2.cell? ra=some (.int .i64 v):=⟨by rw [b22.cell hlow.1,← b21.cell hlow.1]; exact hS1.1,by rw [b22.cell hlow.2,← b21.cell hlow.2]; exact hS1.2⟩
     rw [hW2,hgb9]
     rw [hgb9] at n90
     replace hW2:=Hd hW2
     replace hgb9:=Hd hgb9
     refine hK.out _ _ hS2 fun _=>?_
     clear hK KK bb RW1 oo
     refine wpAnyH_ready (rs:=[12]) (by kernel_rfl) (by simp) (AllReadyH.cons rfl (fun KK hK=>?_) (AllReadyH.nil))
     ·go_simp
      obtain ⟨f3,RW3,n91,oo⟩:=RW2.box4 (9,1) hB2 42 (.int .i64 0) (.slice none 0 0) (.slice none 0 0) (.slice none 0 0)
      replace n02:=(oo (0,2) (by decide)).trans n02
      replace n03:=(oo (0,3) (by decide)).trans n03
      replace n10:=(oo (1,0) (by decide)).trans n10
      replace n11:=(oo (1,1) (by decide)).trans n11
      replace n20:=(oo (2,0) (by decide)).trans n20
      replace n21:=(oo (2,1) (by decide)).trans n21
      replace n30:=(oo (3,0) (by decide)).trans n30
      replace n31:=(oo (3,1) (by decide)).trans n31
      replace n90:=(oo (9,0) (by decide)).trans n90
      have bb:=belowAlloc W2 (.cells #[.int .i64 0,.slice none 0 0,.slice none 0 0,.slice none 0 0] 42)
      obtain ⟨gb10,hgb10⟩:∃ g,W2.heap.size=g:=⟨_,rfl⟩
      obtain ⟨W3,hW3⟩:∃ W':World,W2.alloc (.cells #[.int .i64 0,.slice none 0 0,.slice none 0 0,.slice none 0 0] 42)=W':=⟨_,rfl⟩
      have lgb10:w2.heap.size≤gb10:=by rw [← hgb10]; exact b22.size
      have bW3:=bW2.trans (bb.mono hB2)
      have b23:=Below.step b22 bb
      rw [hW3] at RW3 bW3 b23 bb
      have hB3:=bW3.size
      have hS3:W3.cell? ⟨w.heap.size,0,none⟩=some (.int .i64 K)∧W3.cell? ra=some (.int .i64 v):=⟨by rw [b23.cell hlow.1,← b22.cell hlow.1]; exact hS2.1,by rw [b23.cell hlow.2,← b22.cell hlow.2]; exact hS2.2⟩
      rw [hW3,hgb10]
      rw [hgb10] at n91
      replace hW3:=Hd hW3
      replace hgb10:=Hd hgb10
      refine hK.out _ _ hS3 fun _=>?_
      clear hK KK bb RW2 oo
      obtain ⟨t0,t1,t2,t3⟩:=RW3.cells4 n90
      have ft0:=RW3.frz4 n90 0
      have ft1:=RW3.frz4 n90 1
      have ft2:=RW3.frz4 n90 2
      have ft3:=RW3.frz4 n90 3
      have lt:=(RW3.low4 n90)
      obtain ⟨f4,RW4,mm,oo⟩:=RW3.all4 n90 (.int .i64 0) (.slice aLa aLn aLc) (.slice aCa aCn aCc) (.slice aQa aQn aQc)
      replace n02:=(oo (0,2) (by decide)).trans n02
      replace n03:=(oo (0,3) (by decide)).trans n03
      replace n10:=(oo (1,0) (by decide)).trans n10
      replace n11:=(oo (1,1) (by decide)).trans n11
      replace n20:=(oo (2,0) (by decide)).trans n20
      replace n21:=(oo (2,1) (by decide)).trans n21
      replace n30:=(oo (3,0) (by decide)).trans n30
      replace n31:=(oo (3,1) (by decide)).trans n31
      replace n91:=(oo (9,1) (by decide)).trans n91
      clear n90
      have n90:=mm
      have bW4:=Below.all4 (g:=gb9) bW3 lt.1 (.int .i64 0) (.slice aLa aLn aLc) (.slice aCa aCn aCc) (.slice aQa aQn aQc)
      have b24:=Below.all4 (g:=gb9) b23 lgb9 (.int .i64 0) (.slice aLa aLn aLc) (.slice aCa aCn aCc) (.slice aQa aQn aQc)
      obtain ⟨W4,hW4⟩:∃ W':World,(((W3.setCell ⟨gb9,0,none⟩ (.int .i64 0)).setCell ⟨gb9,1,none⟩ (.slice aLa aLn aLc)).setCell ⟨gb9,2,none⟩ (.slice aCa aCn aCc)).setCell ⟨gb9,3,none⟩ (.slice aQa aQn aQc)=W':=⟨_,rfl⟩
      rw [hW4] at RW4 bW4 b24
      have hS4:W4.cell? ⟨w.heap.size,0,none⟩=some (.int .i64 K)∧W4.cell? ra=some (.int .i64 v):=⟨by rw [b24.cell hlow.1,← b23.cell hlow.1]; exact hS3.1,by rw [b24.cell hlow.2,← b23.cell hlow.2]; exact hS3.2⟩
      replace hW4:=Hd hW4
      refine wpAnyH_ready (rs:=[13]) (by kernel_rfl) (by simp) (AllReadyH.cons rfl (fun KK hK=>?_) AllReadyH.nil)
      go_simp
      rw [hW4.out]
      refine hK.out _ _ hS4 fun _=>?_
      clear hK KK t0 t1 t2 t3 ft0 ft1 ft2 ft3 mm oo lt RW3 hW4
      obtain ⟨t0,t1,t2,t3⟩:=RW4.cells4 n91
      have ft0:=RW4.frz4 n91 0
      have ft1:=RW4.frz4 n91 1
      have ft2:=RW4.frz4 n91 2
      have ft3:=RW4.frz4 n91 3
      have lt:=(RW4.low4 n91)
      obtain ⟨f5,RW5,mm,oo⟩:=RW4.all4 n91 (.int .i64 0) (.slice bLa bLn bLc) (.slice bCa bCn bCc) (.slice bQa bQn bQc)
      replace n02:=(oo (0,2) (by decide)).trans n02
      replace n03:=(oo (0,3) (by decide)).trans n03
      replace n10:=(oo (1,0) (by decide)).trans n10
      replace n11:=(oo (1,1) (by decide)).trans n11
      replace n20:=(oo (2,0) (by decide)).trans n20
      replace n21:=(oo (2,1) (by decide)).trans n21
      replace n30:=(oo (3,0) (by decide)).trans n30
      replace n31:=(oo (3,1) (by decide)).trans n31
      replace n90:=(oo (9,0) (by decide)).trans n90
      clear n91
      have n91:=mm
      have bW5:=Below.all4 (g:=gb10) bW4 lt.1 (.int .i64 0) (.slice bLa bLn bLc) (.slice bCa bCn bCc) (.slice bQa bQn bQc)
      have b25:=Below.all4 (g:=gb10) b24 lgb10 (.int .i64 0) (.slice bLa bLn bLc) (.slice bCa bCn bCc) (.slice bQa bQn bQc)
      obtain ⟨W5,hW5⟩:∃ W':World,(((W4.setCell ⟨gb10,0,none⟩ (.int .i64 0)).setCell ⟨gb10,1,none⟩ (.slice bLa bLn bLc)).setCell ⟨gb10,2,none⟩ (.slice bCa bCn bCc)).setCell ⟨gb10,3,none⟩ (.slice bQa bQn bQc)=W':=⟨_,rfl⟩
      rw [hW5] at RW5 bW5 b25
      have hS5:W5.cell? ⟨w.heap.size,0,none⟩=some (.int .i64 K)∧W5.cell? ra=some (.int .i64 v):=⟨by rw [b25.cell hlow.1,← b24.cell hlow.1]; exact hS4.1,by rw [b25.cell hlow.2,← b24.cell hlow.2]; exact hS4.2⟩
      replace hW5:=Hd hW5
      refine wpAnyH_ready (rs:=[14]) (by kernel_rfl) (by simp) (AllReadyH.cons rfl (fun KK hK=>?_) AllReadyH.nil)
      go_simp
      rw [hW5.out]
      refine hK.out _ _ hS5 fun _=>?_
      clear hK KK t0 t1 t2 t3 ft0 ft1 ft2 ft3 mm oo lt RW4 hW5
      refine pqD 15 7 hS5 ?_
      refine wpAnyH_done (by kernel_rfl) ?_ _
      refine NoPanic.normal ?_
      replace n02:=Hd n02
      replace n03:=Hd n03
      replace n90:=Hd n90
      replace n91:=Hd n91
      replace n10:=Hd n10
      replace n11:=Hd n11
      replace n20:=Hd n20
      replace n21:=Hd n21
      replace n30:=Hd n30
      replace n31:=Hd n31
      replace RW5:=Hd RW5
      go_wp2
      go_meet
      case rel=>exact ⟨rfl,gb9,gb10,L',C',Q',_,_,_,_,_,_,f5,rfl,rfl,bW5,hwi.out,RW5.out,n02.out,n03.out,n90.out,n91.out,n10.out,n11.out,n20.out,n21.out,n30.out,n31.out⟩
    ·go_simp
     obtain ⟨f6,RW6,n91,oo⟩:=RW1.box4 (9,1) hB1 42 (.int .i64 0) (.slice none 0 0) (.slice none 0 0) (.slice none 0 0)
     replace n02:=(oo (0,2) (by decide)).trans n02
     replace n03:=(oo (0,3) (by decide)).trans n03
     replace n10:=(oo (1,0) (by decide)).trans n10
     replace n11:=(oo (1,1) (by decide)).trans n11
     replace n20:=(oo (2,0) (by decide)).trans n20
     replace n21:=(oo (2,1) (by decide)).trans n21
     replace n30:=(oo (3,0) (by decide)).trans n30
     replace n31:=(oo (3,1) (by decide)).trans n31
     have bb:=belowAlloc W1 (.cells #[.int .i64 0,.slice none 0 0,.slice none 0 0,.slice none 0 0] 42)
     obtain ⟨gb10,hgb10⟩:∃ g,W1.heap.size=g:=⟨_,rfl⟩
     obtain ⟨W6,hW6⟩:∃ W':World,W1.alloc (.cells #[.int .i64 0,.slice none 0 0,.slice none 0 0,.slice none 0 0] 42)=W':=⟨_,rfl⟩
     have lgb10:w2.heap.size≤gb10:=by rw [← hgb10]; exact b21.size
     have bW6:=bW1.trans (bb.mono hB1)
     have b26:=Below.step b21 bb
     rw [hW6] at RW6 bW6 b26 bb
     have hB6:=bW6.size
     have hS6:W6.cell? ⟨w.heap.size,0,none⟩=some (.int .i64 K)∧W6.cell? ra=some (.int .i64 v):=⟨by rw [b26.cell hlow.1,← b21.cell hlow.1]; exact hS1.1,by rw [b26.cell hlow.2,← b21.cell hlow.2]; exact hS1.2⟩
     rw [hW6,hgb10]
     rw [hgb10] at n91
     replace hW6:=Hd hW6
     replace hgb10:=Hd hgb10
     refine hK.out _ _ hS6 fun _=>?_
     clear hK KK bb RW1 oo
     refine wpAnyH_ready (rs:=[11]) (by kernel_rfl) (by simp) (AllReadyH.cons rfl (fun KK hK=>?_) (AllReadyH.nil))
     ·go_simp
      obtain ⟨f7,RW7,n90,oo⟩:=RW6.box4 (9,0) hB6 42 (.int .i64 0) (.slice none 0 0) (.slice none 0 0) (.slice none 0 0)
      replace n02:=(oo (0,2) (by decide)).trans n02
      replace n03:=(oo (0,3) (by decide)).trans n03
      replace n10:=(oo (1,0) (by decide)).trans n10
      replace n11:=(oo (1,1) (by decide)).trans n11
      replace n20:=(oo (2,0) (by decide)).trans n20
      replace n21:=(oo (2,1) (by decide)).trans n21
      replace n30:=(oo (3,0) (by decide)).trans n30
      replace n31:=(oo (3,1) (by decide)).trans n31
      replace n91:=(oo (9,1) (by decide)).trans n91
      have bb:=belowAlloc W6 (.cells #[.int .i64 0,.slice none 0 0,.slice none 0 0,.slice none 0 0] 42)
      obtain ⟨gb9,hgb9⟩:∃ g,W6.heap.size=g:=⟨_,rfl⟩
      obtain ⟨W7,hW7⟩:∃ W':World,W6.alloc (.cells #[.int .i64 0,.slice none 0 0,.slice none 0 0,.slice none 0 0] 42)=W':=⟨_,rfl⟩
      have lgb9:w2.heap.size≤gb9:=by rw [← hgb9]; exact b26.size
      have bW7:=bW6.trans (bb.mono hB6)
      have b27:=Below.step b26 bb
      rw [hW7] at RW7 bW7 b27 bb
      have hB7:=bW7.size
      have hS7:W7.cell? ⟨w.heap.size,0,none⟩=some (.int .i64 K)∧W7.cell? ra=some (.int .i64 v):=⟨by rw [b27.cell hlow.1,← b26.cell hlow.1]; exact hS6.1,by rw [b27.cell hlow.2,← b26.cell hlow.2]; exact hS6.2⟩
      rw [hW7,hgb9]
      rw [hgb9] at n90
      replace hW7:=Hd hW7
      replace hgb9:=Hd hgb9
      refine hK.out _ _ hS7 fun _=>?_
      clear hK KK bb RW6 oo
      obtain ⟨t0,t1,t2,t3⟩:=RW7.cells4 n90
      have ft0:=RW7.frz4 n90 0
      have ft1:=RW7.frz4 n90 1
      have ft2:=RW7.frz4 n90 2
      have ft3:=RW7.frz4 n90 3
      have lt:=(RW7.low4 n90)
      obtain ⟨f8,RW8,mm,oo⟩:=RW7.all4 n90 (.int .i64 0) (.slice aLa aLn aLc) (.slice aCa aCn aCc) (.slice aQa aQn aQc)
      replace n02:=(oo (0,2) (by decide)).trans n02
      replace n03:=(oo (0,3) (by decide)).trans n03
      replace n10:=(oo (1,0) (by decide)).trans n10
      replace n11:=(oo (1,1) (by decide)).trans n11
      replace n20:=(oo (2,0) (by decide)).trans n20
      replace n21:=(oo (2,1) (by decide)).trans n21
      replace n30:=(oo (3,0) (by decide)).trans n30
      replace n31:=(oo (3,1) (by decide)).trans n31
      replace n91:=(oo (9,1) (by decide)).trans n91
      clear n90
      have n90:=mm
      have bW8:=Below.all4 (g:=gb9) bW7 lt.1 (.int .i64 0) (.slice aLa aLn aLc) (.slice aCa aCn aCc) (.slice aQa aQn aQc)
      have b28:=Below.all4 (g:=gb9) b27 lgb9 (.int .i64 0) (.slice aLa aLn aLc) (.slice aCa aCn aCc) (.slice aQa aQn aQc)
      obtain ⟨W8,hW8⟩:∃ W':World,(((W7.setCell ⟨gb9,0,none⟩ (.int .i64 0)).setCell ⟨gb9,1,none⟩ (.slice aLa aLn aLc)).setCell ⟨gb9,2,none⟩ (.slice aCa aCn aCc)).setCell ⟨gb9,3,none⟩ (.slice aQa aQn aQc)=W':=⟨_,rfl⟩
      rw [hW8] at RW8 bW8 b28
      have hS8:W8.cell? ⟨w.heap.size,0,none⟩=some (.int .i64 K)∧W8.cell? ra=some (.int .i64 v):=⟨by rw [b28.cell hlow.1,← b27.cell hlow.1]; exact hS7.1,by rw [b28.cell hlow.2,← b27.cell hlow.2]; exact hS7.2⟩
      replace hW8:=Hd hW8
      refine wpAnyH_ready (rs:=[13]) (by kernel_rfl) (by simp) (AllReadyH.cons rfl (fun KK hK=>?_) AllReadyH.nil)
      go_simp
      rw [hW8.out]
      refine hK.out _ _ hS8 fun _=>?_
      clear hK KK t0 t1 t2 t3 ft0 ft1 ft2 ft3 mm oo lt RW7 hW8
      obtain ⟨t0,t1,t2,t3⟩:=RW8.cells4 n91
      have ft0:=RW8.frz4 n91 0
      have ft1:=RW8.frz4 n91 1
      have ft2:=RW8.frz4 n91 2
      have ft3:=RW8.frz4 n91 3
      have lt:=(RW8.low4 n91)
      obtain ⟨f9,RW9,mm,oo⟩:=RW8.all4 n91 (.int .i64 0) (.slice bLa bLn bLc) (.slice bCa bCn bCc) (.slice bQa bQn bQc)
      replace n02:=(oo (0,2) (by decide)).trans n02
      replace n03:=(oo (0,3) (by decide)).trans n03
      replace n10:=(oo (1,0) (by decide)).trans n10
      replace n11:=(oo (1,1) (by decide)).trans n11
      replace n20:=(oo (2,0) (by decide)).trans n20
      replace n21:=(oo (2,1) (by decide)).trans n21
      replace n30:=(oo (3,0) (by decide)).trans n30
      replace n31:=(oo (3,1) (by decide)).trans n31
      replace n90:=(oo (9,0) (by decide)).trans n90
      clear n91
      have n91:=mm
      have bW9:=Below.all4 (g:=gb10) bW8 lt.1 (.int .i64 0) (.slice bLa bLn bLc) (.slice bCa bCn bCc) (.slice bQa bQn bQc)
      have b29:=Below.all4 (g:=gb10) b28 lgb10 (.int .i64 0) (.slice bLa bLn bLc) (.slice bCa bCn bCc) (.slice bQa bQn bQc)
      obtain ⟨W9,hW9⟩:∃ W':World,(((W8.setCell ⟨gb10,0,none⟩ (.int .i64 0)).setCell ⟨gb10,1,none⟩ (.slice bLa bLn bLc)).setCell ⟨gb10,2,none⟩ (.slice bCa bCn bCc)).setCell ⟨gb10,3,none⟩ (.slice bQa bQn bQc)=W':=⟨_,rfl⟩
      rw [hW9] at RW9 bW9 b29
      have hS9:W9.cell? ⟨w.heap.size,0,none⟩=some (.int .i64 K)∧W9.cell? ra=some (.int .i64 v):=⟨by rw [b29.cell hlow.1,← b28.cell hlow.1]; exact hS8.1,by rw [b29.cell hlow.2,← b28.cell hlow.2]; exact hS8.2⟩
      replace hW9:=Hd hW9
      refine wpAnyH_ready (rs:=[14]) (by kernel_rfl) (by simp) (AllReadyH.cons rfl (fun KK hK=>?_) AllReadyH.nil)
      go_simp
      rw [hW9.out]
      refine hK.out _ _ hS9 fun _=>?_
      clear hK KK t0 t1 t2 t3 ft0 ft1 ft2 ft3 mm oo lt RW8 hW9
      refine pqD 15 7 hS9 ?_
      refine wpAnyH_done (by kernel_rfl) ?_ _
      refine NoPanic.normal ?_
      replace n02:=Hd n02
      replace n03:=Hd n03
      replace n90:=Hd n90
      replace n91:=Hd n91
      replace n10:=Hd n10
      replace n11:=Hd n11
      replace n20:=Hd n20
      replace n21:=Hd n21
      replace n30:=Hd n30
      replace n31:=Hd n31
      replace RW9:=Hd RW9
      go_wp2
      go_meet
      case rel=>exact ⟨rfl,gb9,gb10,L',C',Q',_,_,_,_,_,_,f9,rfl,rfl,bW9,hwi.out,RW9.out,n02.out,n03.out,n90.out,n91.out,n10.out,n11.out,n20.out,n21.out,n30.out,n31.out⟩
   ·go_simp
    obtain ⟨f10,RW10,n90,oo⟩:=RW0.box4 (9,0) hB0 42 (.int .i64 0) (.slice none 0 0) (.slice none 0 0) (.slice none 0 0)
    replace n02:=(oo (0,2) (by decide)).trans n02
    replace n03:=(oo (0,3) (by decide)).trans n03
    have bb:=belowAlloc W0 (.cells #[.int .i64 0,.slice none 0 0,.slice none 0 0,.slice none 0 0] 42)
    obtain ⟨gb9,hgb9⟩:∃ g,W0.heap.size=g:=⟨_,rfl⟩
    obtain ⟨W10,hW10⟩:∃ W':World,W0.alloc (.cells #[.int .i64 0,.slice none 0 0,.slice none 0 0,.slice none 0 0] 42)=W':=⟨_,rfl⟩
    have lgb9:w2.heap.size≤gb9:=by rw [← hgb9]; exact b20.size
    have bW10:=bW0.trans (bb.mono hB0)
    have b210:=Below.step b20 bb
    rw [hW10] at RW10 bW10 b210 bb
    have hB10:=bW10.size
    have hS10:W10.cell? ⟨w.heap.size,0,none⟩=some (.int .i64 K)∧W10.cell? ra=some (.int .i64 v):=⟨by rw [b210.cell hlow.1,← b20.cell hlow.1]; exact hS0.1,by rw [b210.cell hlow.2,← b20.cell hlow.2]; exact hS0.2⟩
    rw [hW10,hgb9]
    rw [hgb9] at n90
    replace hW10:=Hd hW10
    replace hgb9:=Hd hgb9
    refine hK.out _ _ hS10 fun _=>?_
    clear hK KK bb RW0 oo
    refine wpAnyH_ready (rs:=[6,12]) (by kernel_rfl) (by simp) (AllReadyH.cons rfl (fun KK hK=>?_) (AllReadyH.cons rfl (fun KK hK=>?_) (AllReadyH.nil)))
    ·go_simp
     refine (hwv.out W10 (hG2.out.below b210) (hL2.out.below b210)).mono ?_
     rintro e W11 ⟨x,y,z,rfl,bb,hz,L',C',Q',aL,aC,aQ,bL,bC,bQ,hwi,rfl,rfl,fw,Rw,k10,k11,k20,k21,k30,k31⟩
     subst hz
     obtain ⟨aLa,aLn,aLc,haL⟩:=(Rw.ownI k10).at.shape
     subst haL
     obtain ⟨bLa,bLn,bLc,hbL⟩:=(Rw.ownI k11).at.shape
     subst hbL
     obtain ⟨aCa,aCn,aCc,haC⟩:=(Rw.ownI k20).at.shape
     subst haC
     obtain ⟨bCa,bCn,bCc,hbC⟩:=(Rw.ownI k21).at.shape
     subst hbC
     obtain ⟨aQa,aQn,aQc,haQ⟩:=(Rw.ownI k30).at.shape
     subst haQ
     obtain ⟨bQa,bQn,bQc,hbQ⟩:=(Rw.ownI k31).at.shape
     subst hbQ
     obtain ⟨f11,RW11,sel,oth⟩:=RW10.merge (fun i=>decide (i.1=1∨i.1=2∨i.1=3)) bb Rw hB10
     replace n02:=(oth (0,2) (by decide)).trans n02
     replace n03:=(oth (0,3) (by decide)).trans n03
     replace n90:=(oth (9,0) (by decide)).trans n90
     have n10:=(sel (1,0) (by decide)).trans k10
     have n11:=(sel (1,1) (by decide)).trans k11
     have n20:=(sel (2,0) (by decide)).trans k20
     have n21:=(sel (2,1) (by decide)).trans k21
     have n30:=(sel (3,0) (by decide)).trans k30
     have n31:=(sel (3,1) (by decide)).trans k31
     replace hwi:=Hd hwi
     clear sel oth k10 k11 k20 k21 k30 k31 Rw
     have bW11:=bW10.trans (bb.mono hB10)
     have b211:=Below.step b210 bb
     have hB11:=bW11.size
     have hS11:W11.cell? ⟨w.heap.size,0,none⟩=some (.int .i64 K)∧W11.cell? ra=some (.int .i64 v):=⟨by rw [b211.cell hlow.1,← b210.cell hlow.1]; exact hS10.1,by rw [b211.cell hlow.2,← b210.cell hlow.2]; exact hS10.2⟩
     refine hK.out _ _ hS11 fun _=>?_
     clear hK KK bb RW10
     refine pqD 7 39 hS11 ?_
     refine pqD 8 47 hS11 ?_
     refine pqD 9 48 hS11 ?_
     refine pqD 10 49 hS11 ?_
     refine wpAnyH_ready (rs:=[12]) (by kernel_rfl) (by simp) (AllReadyH.cons rfl (fun KK hK=>?_) (AllReadyH.nil))
     ·go_simp
      obtain ⟨f12,RW12,n91,oo⟩:=RW11.box4 (9,1) hB11 42 (.int .i64 0) (.slice none 0 0) (.slice none 0 0) (.slice none 0 0)
      replace n02:=(oo (0,2) (by decide)).trans n02
      replace n03:=(oo (0,3) (by decide)).trans n03
      replace n90:=(oo (9,0) (by decide)).trans n90
      replace n10:=(oo (1,0) (by decide)).trans n10
      replace n11:=(oo (1,1) (by decide)).trans n11
      replace n20:=(oo (2,0) (by decide)).trans n20
      replace n21:=(oo (2,1) (by decide)).trans n21
      replace n30:=(oo (3,0) (by decide)).trans n30
      replace n31:=(oo (3,1) (by decide)).trans n31
      have bb:=belowAlloc W11 (.cells #[.int .i64 0,.slice none 0 0,.slice none 0 0,.slice none 0 0] 42)
      obtain ⟨gb10,hgb10⟩:∃ g,W11.heap.size=g:=⟨_,rfl⟩
      obtain ⟨W12,hW12⟩:∃ W':World,W11.alloc (.cells #[.int .i64 0,.slice none 0 0,.slice none 0 0,.slice none 0 0] 42)=W':=⟨_,rfl⟩
      have lgb10:w2.heap.size≤gb10:=by rw [← hgb10]; exact b211.size
      have bW12:=bW11.trans (bb.mono hB11)
      have b212:=Below.step b211 bb
      rw [hW12] at RW12 bW12 b212 bb
      have hB12:=bW12.size
      have hS12:W12.cell? ⟨w.heap.size,0,none⟩=some (.int .i64 K)∧W12.cell? ra=some (.int .i64 v):=⟨by rw [b212.cell hlow.1,← b211.cell hlow.1]; exact hS11.1,by rw [b212.cell hlow.2,← b211.cell hlow.2]; exact hS11.2⟩
      rw [hW12,hgb10]
      rw [hgb10] at n91
      replace hW12:=Hd hW12
      replace hgb10:=Hd hgb10
      refine hK.out _ _ hS12 fun _=>?_
      clear hK KK bb RW11 oo
      obtain ⟨t0,t1,t2,t3⟩:=RW12.cells4 n90
      have ft0:=RW12.frz4 n90 0
      have ft1:=RW12.frz4 n90 1
      have ft2:=RW12.frz4 n90 2
      have ft3:=RW12.frz4 n90 3
      have lt:=(RW12.low4 n90)
      obtain ⟨f13,RW13,mm,oo⟩:=RW12.all4 n90 (.int .i64 0) (.slice aLa aLn aLc) (.slice aCa aCn aCc) (.slice aQa aQn aQc)
      replace n02:=(oo (0,2) (by decide)).trans n02
      replace n03:=(oo (0,3) (by decide)).trans n03
      replace n10:=(oo (1,0) (by decide)).trans n10
      replace n11:=(oo (1,1) (by decide)).trans n11
      replace n20:=(oo (2,0) (by decide)).trans n20
      replace n21:=(oo (2,1) (by decide)).trans n21
      replace n30:=(oo (3,0) (by decide)).trans n30
      replace n31:=(oo (3,1) (by decide)).trans n31
      replace n91:=(oo (9,1) (by decide)).trans n91
      clear n90
      have n90:=mm
      have bW13:=Below.all4 (g:=gb9) bW12 lt.1 (.int .i64 0) (.slice aLa aLn aLc) (.slice aCa aCn aCc) (.slice aQa aQn aQc)
      have b213:=Below.all4 (g:=gb9) b212 lgb9 (.int .i64 0) (.slice aLa aLn aLc) (.slice aCa aCn aCc) (.slice aQa aQn aQc)
      obtain ⟨W13,hW13⟩:∃ W':World,(((W12.setCell ⟨gb9,0,none⟩ (.int .i64 0)).setCell ⟨gb9,1,none⟩ (.slice aLa aLn aLc)).setCell ⟨gb9,2,none⟩ (.slice aCa aCn aCc)).setCell ⟨gb9,3,none⟩ (.slice aQa aQn aQc)=W':=⟨_,rfl⟩
      rw [hW13] at RW13 bW13 b213
      have hS13:W13.cell? ⟨w.heap.size,0,none⟩=some (.int .i64 K)∧W13.cell? ra=some (.int .i64 v):=⟨by rw [b213.cell hlow.1,← b212.cell hlow.1]; exact hS12.1,by rw [b213.cell hlow.2,← b212.cell hlow.2]; exact hS12.2⟩
      replace hW13:=Hd hW13
      refine wpAnyH_ready (rs:=[13]) (by kernel_rfl) (by simp) (AllReadyH.cons rfl (fun KK hK=>?_) AllReadyH.nil)
      go_simp
      rw [hW13.out]
      refine hK.out _ _ hS13 fun _=>?_
      clear hK KK t0 t1 t2 t3 ft0 ft1 ft2 ft3 mm oo lt RW12 hW13
      obtain ⟨t0,t1,t2,t3⟩:=RW13.cells4 n91
      have ft0:=RW13.frz4 n91 0
      have ft1:=RW13.frz4 n91 1
      have ft2:=RW13.frz4 n91 2
      have ft3:=RW13.frz4 n91 3
      have lt:=(RW13.low4 n91)
      obtain ⟨f14,RW14,mm,oo⟩:=RW13.all4 n91 (.int .i64 0) (.slice bLa bLn bLc) (.slice bCa bCn bCc) (.slice bQa bQn bQc)
      replace n02:=(oo (0,2) (by decide)).trans n02
      replace n03:=(oo (0,3) (by decide)).trans n03
      replace n90:=(oo (9,0) (by decide)).trans n90
      replace n10:=(oo (1,0) (by decide)).trans n10
      replace n11:=(oo (1,1) (by decide)).trans n11
      replace n20:=(oo (2,0) (by decide)).trans n20
      replace n21:=(oo (2,1) (by decide)).trans n21
      replace n30:=(oo (3,0) (by decide)).trans n30
      replace n31:=(oo (3,1) (by decide)).trans n31
      clear n91
      have n91:=mm
      have bW14:=Below.all4 (g:=gb10) bW13 lt.1 (.int .i64 0) (.slice bLa bLn bLc) (.slice bCa bCn bCc) (.slice bQa bQn bQc)
      have b214:=Below.all4 (g:=gb10) b213 lgb10 (.int .i64 0) (.slice bLa bLn bLc) (.slice bCa bCn bCc) (.slice bQa bQn bQc)
      obtain ⟨W14,hW14⟩:∃ W':World,(((W13.setCell ⟨gb10,0,none⟩ (.int .i64 0)).setCell ⟨gb10,1,none⟩ (.slice bLa bLn bLc)).setCell ⟨gb10,2,none⟩ (.slice bCa bCn bCc)).setCell ⟨gb10,3,none⟩ (.slice bQa bQn bQc)=W':=⟨_,rfl⟩
      rw [hW14] at RW14 bW14 b214
      have hS14:W14.cell? ⟨w.heap.size,0,none⟩=some (.int .i64 K)∧W14.cell? ra=some (.int .i64 v):=⟨by rw [b214.cell hlow.1,← b213.cell hlow.1]; exact hS13.1,by rw [b214.cell hlow.2,← b213.cell hlow.2]; exact hS13.2⟩
      replace hW14:=Hd hW14
      refine wpAnyH_ready (rs:=[14]) (by kernel_rfl) (by simp) (AllReadyH.cons rfl (fun KK hK=>?_) AllReadyH.nil)
      go_simp
      rw [hW14.out]
      refine hK.out _ _ hS14 fun _=>?_
      clear hK KK t0 t1 t2 t3 ft0 ft1 ft2 ft3 mm oo lt RW13 hW14
      refine pqD 15 7 hS14 ?_
      refine wpAnyH_done (by kernel_rfl) ?_ _
      refine NoPanic.normal ?_
      replace n02:=Hd n02
      replace n03:=Hd n03
      replace n90:=Hd n90
      replace n91:=Hd n91
      replace n10:=Hd n10
      replace n11:=Hd n11
      replace n20:=Hd n20
      replace n21:=Hd n21
      replace n30:=Hd n30
      replace n31:=Hd n31
      replace RW14:=Hd RW14
      go_wp2
      go_meet
      case rel=>exact ⟨rfl,gb9,gb10,L',C',Q',_,_,_,_,_,_,f14,rfl,rfl,bW14,hwi.out,RW14.out,n02.out,n03.out,n90.out,n91.out,n10.out,n11.out,n20.out,n21.out,n30.out,n31.out⟩
    ·go_simp
     obtain ⟨f15,RW15,n91,oo⟩:=RW10.box4 (9,1) hB10 42 (.int .i64 0) (.slice none 0 0) (.slice none 0 0) (.slice none 0 0)
     replace n02:=(oo (0,2) (by decide)).trans n02
     replace n03:=(oo (0,3) (by decide)).trans n03
     replace n90:=(oo (9,0) (by decide)).trans n90
     have bb:=belowAlloc W10 (.cells #[.int .i64 0,.slice none 0 0,.slice none 0 0,.slice none 0 0] 42)
     obtain ⟨gb10,hgb10⟩:∃ g,W10.heap.size=g:=⟨_,rfl⟩
     obtain ⟨W15,hW15⟩:∃ W':World,W10.alloc (.cells #[.int .i64 0,.slice none 0 0,.slice none 0 0,.slice none 0 0] 42)=W':=⟨_,rfl⟩
     have lgb10:w2.heap.size≤gb10:=by rw [← hgb10]; exact b210.size
     have bW15:=bW10.trans (bb.mono hB10)
     have b215:=Below.step b210 bb
     rw [hW15] at RW15 bW15 b215 bb
     have hB15:=bW15.size
     have hS15:W15.cell? ⟨w.heap.size,0,none⟩=some (.int .i64 K)∧W15.cell? ra=some (.int .i64 v):=⟨by rw [b215.cell hlow.1,← b210.cell hlow.1]; exact hS10.1,by rw [b215.cell hlow.2,← b210.cell hlow.2]; exact hS10.2⟩
     rw [hW15,hgb10]
     rw [hgb10] at n91
     replace hW15:=Hd hW15
     replace hgb10:=Hd hgb10
     refine hK.out _ _ hS15 fun _=>?_
     clear hK KK bb RW10 oo
     refine wpAnyH_ready (rs:=[6]) (by kernel_rfl) (by simp) (AllReadyH.cons rfl (fun KK hK=>?_) (AllReadyH.nil))
     ·go_simp
      refine (hwv.out W15 (hG2.out.below b215) (hL2.out.below b215)).mono ?_
      rintro e W16 ⟨x,y,z,rfl,bb,hz,L',C',Q',aL,aC,aQ,bL,bC,bQ,hwi,rfl,rfl,fw,Rw,k10,k11,k20,k21,k30,k31⟩
      subst hz
      obtain ⟨aLa,aLn,aLc,haL⟩:=(Rw.ownI k10).at.shape
      subst haL
      obtain ⟨bLa,bLn,bLc,hbL⟩:=(Rw.ownI k11).at.shape
      subst hbL
      obtain ⟨aCa,aCn,aCc,haC⟩:=(Rw.ownI k20).at.shape
      subst haC
      obtain ⟨bCa,bCn,bCc,hbC⟩:=(Rw.ownI k21).at.shape
      subst hbC
      obtain ⟨aQa,aQn,aQc,haQ⟩:=(Rw.ownI k30).at.shape
      subst haQ
      obtain ⟨bQa,bQn,bQc,hbQ⟩:=(Rw.ownI k31).at.shape
      subst hbQ
      obtain ⟨f16,RW16,sel,oth⟩:=RW15.merge (fun i=>decide (i.1=1∨i.1=2∨i.1=3)) bb Rw hB15
      replace n02:=(oth (0,2) (by decide)).trans n02
      replace n03:=(oth (0,3) (by decide)).trans n03
      replace n90:=(oth (9,0) (by decide)).trans n90
      replace n91:=(oth (9,1) (by decide)).trans n91
      have n10:=(sel (1,0) (by decide)).trans k10
      have n11:=(sel (1,1) (by decide)).trans k11
      have n20:=(sel (2,0) (by decide)).trans k20
      have n21:=(sel (2,1) (by decide)).trans k21
      have n30:=(sel (3,0) (by decide)).trans k30
      have n31:=(sel (3,1) (by decide)).trans k31
      replace hwi:=Hd hwi
      clear sel oth k10 k11 k20 k21 k30 k31 Rw
      have bW16:=bW15.trans (bb.mono hB15)
      have b216:=Below.step b215 bb
      have hB16:=bW16.size
      have hS16:W16.cell? ⟨w.heap.size,0,none⟩=some (.int .i64 K)∧W16.cell? ra=some (.int .i64 v):=⟨by rw [b216.cell hlow.1,← b215.cell hlow.1]; exact hS15.1,by rw [b216.cell hlow.2,← b215.cell hlow.2]; exact hS15.2⟩
      refine hK.out _ _ hS16 fun _=>?_
      clear hK KK bb RW15
      refine pqD 7 39 hS16 ?_
      refine pqD 8 47 hS16 ?_
      refine pqD 9 48 hS16 ?_
      refine pqD 10 49 hS16 ?_
      obtain ⟨t0,t1,t2,t3⟩:=RW16.cells4 n90
      have ft0:=RW16.frz4 n90 0
      have ft1:=RW16.frz4 n90 1
      have ft2:=RW16.frz4 n90 2
      have ft3:=RW16.frz4 n90 3
      have lt:=(RW16.low4 n90)
      obtain ⟨f17,RW17,mm,oo⟩:=RW16.all4 n90 (.int .i64 0) (.slice aLa aLn aLc) (.slice aCa aCn aCc) (.slice aQa aQn aQc)
      replace n02:=(oo (0,2) (by decide)).trans n02
      replace n03:=(oo (0,3) (by decide)).trans n03
      replace n91:=(oo (9,1) (by decide)).trans n91
      replace n10:=(oo (1,0) (by decide)).trans n10
      replace n11:=(oo (1,1) (by decide)).trans n11
      replace n20:=(oo (2,0) (by decide)).trans n20
      replace n21:=(oo (2,1) (by decide)).trans n21
      replace n30:=(oo (3,0) (by decide)).trans n30
      replace n31:=(oo (3,1) (by decide)).trans n31
      clear n90
      have n90:=mm
      have bW17:=Below.all4 (g:=gb9) bW16 lt.1 (.int .i64 0) (.slice aLa aLn aLc) (.slice aCa aCn aCc) (.slice aQa aQn aQc)
      have b217:=Below.all4 (g:=gb9) b216 lgb9 (.int .i64 0) (.slice aLa aLn aLc) (.slice aCa aCn aCc) (.slice aQa aQn aQc)
      obtain ⟨W17,hW17⟩:∃ W':World,(((W16.setCell ⟨gb9,0,none⟩ (.int .i64 0)).setCell ⟨gb9,1,none⟩ (.slice aLa aLn aLc)).setCell ⟨gb9,2,none⟩ (.slice aCa aCn aCc)).setCell ⟨gb9,3,none⟩ (.slice aQa aQn aQc)=W':=⟨_,rfl⟩
      rw [hW17] at RW17 bW17 b217
      have hS17:W17.cell? ⟨w.heap.size,0,none⟩=some (.int .i64 K)∧W17.cell? ra=some (.int .i64 v):=⟨by rw [b217.cell hlow.1,← b216.cell hlow.1]; exact hS16.1,by rw [b217.cell hlow.2,← b216.cell hlow.2]; exact hS16.2⟩
      replace hW17:=Hd hW17
      refine wpAnyH_ready (rs:=[13]) (by kernel_rfl) (by simp) (AllReadyH.cons rfl (fun KK hK=>?_) AllReadyH.nil)
      go_simp
      rw [hW17.out]
      refine hK.out _ _ hS17 fun _=>?_
      clear hK KK t0 t1 t2 t3 ft0 ft1 ft2 ft3 mm oo lt RW16 hW17
      obtain ⟨t0,t1,t2,t3⟩:=RW17.cells4 n91
      have ft0:=RW17.frz4 n91 0
      have ft1:=RW17.frz4 n91 1
      have ft2:=RW17.frz4 n91 2
      have ft3:=RW17.frz4 n91 3
      have lt:=(RW17.low4 n91)
      obtain ⟨f18,RW18,mm,oo⟩:=RW17.all4 n91 (.int .i64 0) (.slice bLa bLn bLc) (.slice bCa bCn bCc) (.slice bQa bQn bQc)
      replace n02:=(oo (0,2) (by decide)).trans n02
      replace n03:=(oo (0,3) (by decide)).trans n03
      replace n90:=(oo (9,0) (by decide)).trans n90
      replace n10:=(oo (1,0) (by decide)).trans n10
      replace n11:=(oo (1,1) (by decide)).trans n11
      replace n20:=(oo (2,0) (by decide)).trans n20
      replace n21:=(oo (2,1) (by decide)).trans n21
      replace n30:=(oo (3,0) (by decide)).trans n30
      replace n31:=(oo (3,1) (by decide)).trans n31
      clear n91
      have n91:=mm
      have bW18:=Below.all4 (g:=gb10) bW17 lt.1 (.int .i64 0) (.slice bLa bLn bLc) (.slice bCa bCn bCc) (.slice bQa bQn bQc)
      have b218:=Below.all4 (g:=gb10) b217 lgb10 (.int .i64 0) (.slice bLa bLn bLc) (.slice bCa bCn bCc) (.slice bQa bQn bQc)
      obtain ⟨W18,hW18⟩:∃ W':World,(((W17.setCell ⟨gb10,0,none⟩ (.int .i64 0)).setCell ⟨gb10,1,none⟩ (.slice bLa bLn bLc)).setCell ⟨gb10,2,none⟩ (.slice bCa bCn bCc)).setCell ⟨gb10,3,none⟩ (.slice bQa bQn bQc)=W':=⟨_,rfl⟩
      rw [hW18] at RW18 bW18 b218
      have hS18:W18.cell? ⟨w.heap.size,0,none⟩=some (.int .i64 K)∧W18.cell? ra=some (.int .i64 v):=⟨by rw [b218.cell hlow.1,← b217.cell hlow.1]; exact hS17.1,by rw [b218.cell hlow.2,← b217.cell hlow.2]; exact hS17.2⟩
      replace hW18:=Hd hW18
      refine wpAnyH_ready (rs:=[14]) (by kernel_rfl) (by simp) (AllReadyH.cons rfl (fun KK hK=>?_) AllReadyH.nil)
      go_simp
      rw [hW18.out]
      refine hK.out _ _ hS18 fun _=>?_
      clear hK KK t0 t1 t2 t3 ft0 ft1 ft2 ft3 mm oo lt RW17 hW18
      refine pqD 15 7 hS18 ?_
      refine wpAnyH_done (by kernel_rfl) ?_ _
      refine NoPanic.normal ?_
      replace n02:=Hd n02
      replace n03:=Hd n03
      replace n90:=Hd n90
      replace n91:=Hd n91
      replace n10:=Hd n10
      replace n11:=Hd n11
      replace n20:=Hd n20
      replace n21:=Hd n21
      replace n30:=Hd n30
      replace n31:=Hd n31
      replace RW18:=Hd RW18
      go_wp2
      go_meet
      case rel=>exact ⟨rfl,gb9,gb10,L',C',Q',_,_,_,_,_,_,f18,rfl,rfl,bW18,hwi.out,RW18.out,n02.out,n03.out,n90.out,n91.out,n10.out,n11.out,n20.out,n21.out,n30.out,n31.out⟩
   ·go_simp
    obtain ⟨f19,RW19,n91,oo⟩:=RW0.box4 (9,1) hB0 42 (.int .i64 0) (.slice none 0 0) (.slice none 0 0) (.slice none 0 0)
    replace n02:=(oo (0,2) (by decide)).trans n02
    replace n03:=(oo (0,3) (by decide)).trans n03
    have bb:=belowAlloc W0 (.cells #[.int .i64 0,.slice none 0 0,.slice none 0 0,.slice none 0 0] 42)
    obtain ⟨gb10,hgb10⟩:∃ g,W0.heap.size=g:=⟨_,rfl⟩
    obtain ⟨W19,hW19⟩:∃ W':World,W0.alloc (.cells #[.int .i64 0,.slice none 0 0,.slice none 0 0,.slice none 0 0] 42)=W':=⟨_,rfl⟩
    have lgb10:w2.heap.size≤gb10:=by rw [← hgb10]; exact b20.size
    have bW19:=bW0.trans (bb.mono hB0)
    have b219:=Below.step b20 bb
    rw [hW19] at RW19 bW19 b219 bb
    have hB19:=bW19.size
    have hS19:W19.cell? ⟨w.heap.size,0,none⟩=some (.int .i64 K)∧W19.cell? ra=some (.int .i64 v):=⟨by rw [b219.cell hlow.1,← b20.cell hlow.1]; exact hS0.1,by rw [b219.cell hlow.2,← b20.cell hlow.2]; exact hS0.2⟩
    rw [hW19,hgb10]
    rw [hgb10] at n91
    replace hW19:=Hd hW19
    replace hgb10:=Hd hgb10
    refine hK.out _ _ hS19 fun _=>?_
    clear hK KK bb RW0 oo
    refine wpAnyH_ready (rs:=[6,11]) (by kernel_rfl) (by simp) (AllReadyH.cons rfl (fun KK hK=>?_) (AllReadyH.cons rfl (fun KK hK=>?_) (AllReadyH.nil)))
    ·go_simp
     refine (hwv.out W19 (hG2.out.below b219) (hL2.out.below b219)).mono ?_
     rintro e W20 ⟨x,y,z,rfl,bb,hz,L',C',Q',aL,aC,aQ,bL,bC,bQ,hwi,rfl,rfl,fw,Rw,k10,k11,k20,k21,k30,k31⟩
     subst hz
     obtain ⟨aLa,aLn,aLc,haL⟩:=(Rw.ownI k10).at.shape
     subst haL
     obtain ⟨bLa,bLn,bLc,hbL⟩:=(Rw.ownI k11).at.shape
     subst hbL
     obtain ⟨aCa,aCn,aCc,haC⟩:=(Rw.ownI k20).at.shape
     subst haC
     obtain ⟨bCa,bCn,bCc,hbC⟩:=(Rw.ownI k21).at.shape
     subst hbC
     obtain ⟨aQa,aQn,aQc,haQ⟩:=(Rw.ownI k30).at.shape
     subst haQ
     obtain ⟨bQa,bQn,bQc,hbQ⟩:=(Rw.ownI k31).at.shape
     subst hbQ
     obtain ⟨f20,RW20,sel,oth⟩:=RW19.merge (fun i=>decide (i.1=1∨i.1=2∨i.1=3)) bb Rw hB19
     replace n02:=(oth (0,2) (by decide)).trans n02
     replace n03:=(oth (0,3) (by decide)).trans n03
     replace n91:=(oth (9,1) (by decide)).trans n91
     have n10:=(sel (1,0) (by decide)).trans k10
     have n11:=(sel (1,1) (by decide)).trans k11
     have n20:=(sel (2,0) (by decide)).trans k20
     have n21:=(sel (2,1) (by decide)).trans k21
     have n30:=(sel (3,0) (by decide)).trans k30
     have n31:=(sel (3,1) (by decide)).trans k31
     replace hwi:=Hd hwi
     clear sel oth k10 k11 k20 k21 k30 k31 Rw
     have bW20:=bW19.trans (bb.mono hB19)
     have b220:=Below.step b219 bb
     have hB20:=bW20.size
     have hS20:W20.cell? ⟨w.heap.size,0,none⟩=some (.int .i64 K)∧W20.cell? ra=some (.int .i64 v):=⟨by rw [b220.cell hlow.1,← b219.cell hlow.1]; exact hS19.1,by rw [b220.cell hlow.2,← b219.cell hlow.2]; exact hS19.2⟩
     refine hK.out _ _ hS20 fun _=>?_
     clear hK KK bb RW19
     refine pqD 7 39 hS20 ?_
     refine pqD 8 47 hS20 ?_
     refine pqD 9 48 hS20 ?_
     refine pqD 10 49 hS20 ?_
     refine wpAnyH_ready (rs:=[11]) (by kernel_rfl) (by simp) (AllReadyH.cons rfl (fun KK hK=>?_) (AllReadyH.nil))
     ·go_simp
      obtain ⟨f21,RW21,n90,oo⟩:=RW20.box4 (9,0) hB20 42 (.int .i64 0) (.slice none 0 0) (.slice none 0 0) (.slice none 0 0)
      replace n02:=(oo (0,2) (by decide)).trans n02
      replace n03:=(oo (0,3) (by decide)).trans n03
      replace n91:=(oo (9,1) (by decide)).trans n91
      replace n10:=(oo (1,0) (by decide)).trans n10
      replace n11:=(oo (1,1) (by decide)).trans n11
      replace n20:=(oo (2,0) (by decide)).trans n20
      replace n21:=(oo (2,1) (by decide)).trans n21
      replace n30:=(oo (3,0) (by decide)).trans n30
      replace n31:=(oo (3,1) (by decide)).trans n31
      have bb:=belowAlloc W20 (.cells #[.int .i64 0,.slice none 0 0,.slice none 0 0,.slice none 0 0] 42)
      obtain ⟨gb9,hgb9⟩:∃ g,W20.heap.size=g:=⟨_,rfl⟩
      obtain ⟨W21,hW21⟩:∃ W':World,W20.alloc (.cells #[.int .i64 0,.slice none 0 0,.slice none 0 0,.slice none 0 0] 42)=W':=⟨_,rfl⟩
      have lgb9:w2.heap.size≤gb9:=by rw [← hgb9]; exact b220.size
      have bW21:=bW20.trans (bb.mono hB20)
      have b221:=Below.step b220 bb
      rw [hW21] at RW21 bW21 b221 bb
      have hB21:=bW21.size
      have hS21:W21.cell? ⟨w.heap.size,0,none⟩=some (.int .i64 K)∧W21.cell? ra=some (.int .i64 v):=⟨by rw [b221.cell hlow.1,← b220.cell hlow.1]; exact hS20.1,by rw [b221.cell hlow.2,← b220.cell hlow.2]; exact hS20.2⟩
      rw [hW21,hgb9]
      rw [hgb9] at n90
      replace hW21:=Hd hW21
      replace hgb9:=Hd hgb9
      refine hK.out _ _ hS21 fun _=>?_
      clear hK KK bb RW20 oo
      obtain ⟨t0,t1,t2,t3⟩:=RW21.cells4 n90
      have ft0:=RW21.frz4 n90 0
      have ft1:=RW21.frz4 n90 1
      have ft2:=RW21.frz4 n90 2
      have ft3:=RW21.frz4 n90 3
      have lt:=(RW21.low4 n90)
      obtain ⟨f22,RW22,mm,oo⟩:=RW21.all4 n90 (.int .i64 0) (.slice aLa aLn aLc) (.slice aCa aCn aCc) (.slice aQa aQn aQc)
      replace n02:=(oo (0,2) (by decide)).trans n02
      replace n03:=(oo (0,3) (by decide)).trans n03
      replace n91:=(oo (9,1) (by decide)).trans n91
      replace n10:=(oo (1,0) (by decide)).trans n10
      replace n11:=(oo (1,1) (by decide)).trans n11
      replace n20:=(oo (2,0) (by decide)).trans n20
      replace n21:=(oo (2,1) (by decide)).trans n21
      replace n30:=(oo (3,0) (by decide)).trans n30
      replace n31:=(oo (3,1) (by decide)).trans n31
      clear n90
      have n90:=mm
      have bW22:=Below.all4 (g:=gb9) bW21 lt.1 (.int .i64 0) (.slice aLa aLn aLc) (.slice aCa aCn aCc) (.slice aQa aQn aQc)
      have b222:=Below.all4 (g:=gb9) b221 lgb9 (.int .i64 0) (.slice aLa aLn aLc) (.slice aCa aCn aCc) (.slice aQa aQn aQc)
      obtain ⟨W22,hW22⟩:∃ W':World,(((W21.setCell ⟨gb9,0,none⟩ (.int .i64 0)).setCell ⟨gb9,1,none⟩ (.slice aLa aLn aLc)).setCell ⟨gb9,2,none⟩ (.slice aCa aCn aCc)).setCell ⟨gb9,3,none⟩ (.slice aQa aQn aQc)=W':=⟨_,rfl⟩
      rw [hW22] at RW22 bW22 b222
      have hS22:W22.cell? ⟨w.heap.size,0,none⟩=some (.int .i64 K)∧W22.cell? ra=some (.int .i64 v):=⟨by rw [b222.cell hlow.1,← b221.cell hlow.1]; exact hS21.1,by rw [b222.cell hlow.2,← b221.cell hlow.2]; exact hS21.2⟩
      replace hW22:=Hd hW22
      refine wpAnyH_ready (rs:=[13]) (by kernel_rfl) (by simp) (AllReadyH.cons rfl (fun KK hK=>?_) AllReadyH.nil)
      go_simp
      rw [hW22.out]
      refine hK.out _ _ hS22 fun _=>?_
      clear hK KK t0 t1 t2 t3 ft0 ft1 ft2 ft3 mm oo lt RW21 hW22
      obtain ⟨t0,t1,t2,t3⟩:=RW22.cells4 n91
      have ft0:=RW22.frz4 n91 0
      have ft1:=RW22.frz4 n91 1
      have ft2:=RW22.frz4 n91 2
      have ft3:=RW22.frz4 n91 3
      have lt:=(RW22.low4 n91)
      obtain ⟨f23,RW23,mm,oo⟩:=RW22.all4 n91 (.int .i64 0) (.slice bLa bLn bLc) (.slice bCa bCn bCc) (.slice bQa bQn bQc)
      replace n02:=(oo (0,2) (by decide)).trans n02
      replace n03:=(oo (0,3) (by decide)).trans n03
      replace n10:=(oo (1,0) (by decide)).trans n10
      replace n11:=(oo (1,1) (by decide)).trans n11
      replace n20:=(oo (2,0) (by decide)).trans n20
      replace n21:=(oo (2,1) (by decide)).trans n21
      replace n30:=(oo (3,0) (by decide)).trans n30
      replace n31:=(oo (3,1) (by decide)).trans n31
      replace n90:=(oo (9,0) (by decide)).trans n90
      clear n91
      have n91:=mm
      have bW23:=Below.all4 (g:=gb10) bW22 lt.1 (.int .i64 0) (.slice bLa bLn bLc) (.slice bCa bCn bCc) (.slice bQa bQn bQc)
      have b223:=Below.all4 (g:=gb10) b222 lgb10 (.int .i64 0) (.slice bLa bLn bLc) (.slice bCa bCn bCc) (.slice bQa bQn bQc)
      obtain ⟨W23,hW23⟩:∃ W':World,(((W22.setCell ⟨gb10,0,none⟩ (.int .i64 0)).setCell ⟨gb10,1,none⟩ (.slice bLa bLn bLc)).setCell ⟨gb10,2,none⟩ (.slice bCa bCn bCc)).setCell ⟨gb10,3,none⟩ (.slice bQa bQn bQc)=W':=⟨_,rfl⟩
      rw [hW23] at RW23 bW23 b223
      have hS23:W23.cell? ⟨w.heap.size,0,none⟩=some (.int .i64 K)∧W23.cell? ra=some (.int .i64 v):=⟨by rw [b223.cell hlow.1,← b222.cell hlow.1]; exact hS22.1,by rw [b223.cell hlow.2,← b222.cell hlow.2]; exact hS22.2⟩
      replace hW23:=Hd hW23
      refine wpAnyH_ready (rs:=[14]) (by kernel_rfl) (by simp) (AllReadyH.cons rfl (fun KK hK=>?_) AllReadyH.nil)
      go_simp
      rw [hW23.out]
      refine hK.out _ _ hS23 fun _=>?_
      clear hK KK t0 t1 t2 t3 ft0 ft1 ft2 ft3 mm oo lt RW22 hW23
      refine pqD 15 7 hS23 ?_
      refine wpAnyH_done (by kernel_rfl) ?_ _
      refine NoPanic.normal ?_
      replace n02:=Hd n02
      replace n03:=Hd n03
      replace n90:=Hd n90
      replace n91:=Hd n91
      replace n10:=Hd n10
      replace n11:=Hd n11
      replace n20:=Hd n20
      replace n21:=Hd n21
      replace n30:=Hd n30
      replace n31:=Hd n31
      replace RW23:=Hd RW23
      go_wp2
      go_meet
      case rel=>exact ⟨rfl,gb9,gb10,L',C',Q',_,_,_,_,_,_,f23,rfl,rfl,bW23,hwi.out,RW23.out,n02.out,n03.out,n90.out,n91.out,n10.out,n11.out,n20.out,n21.out,n30.out,n31.out⟩
    ·go_simp
     obtain ⟨f24,RW24,n90,oo⟩:=RW19.box4 (9,0) hB19 42 (.int .i64 0) (.slice none 0 0) (.slice none 0 0) (.slice none 0 0)
     replace n02:=(oo (0,2) (by decide)).trans n02
     replace n03:=(oo (0,3) (by decide)).trans n03
     replace n91:=(oo (9,1) (by decide)).trans n91
     have bb:=belowAlloc W19 (.cells #[.int .i64 0,.slice none 0 0,.slice none 0 0,.slice none 0 0] 42)
     obtain ⟨gb9,hgb9⟩:∃ g,W19.heap.size=g:=⟨_,rfl⟩
     obtain ⟨W24,hW24⟩:∃ W':World,W19.alloc (.cells #[.int .i64 0,.slice none 0 0,.slice none 0 0,.slice none 0 0] 42)=W':=⟨_,rfl⟩
     have lgb9:w2.heap.size≤gb9:=by rw [← hgb9]; exact b219.size
     have bW24:=bW19.trans (bb.mono hB19)
     have b224:=Below.step b219 bb
     rw [hW24] at RW24 bW24 b224 bb
     have hB24:=bW24.size
     have hS24:W24.cell? ⟨w.heap.size,0,none⟩=some (.int .i64 K)∧W24.cell? ra=some (.int .i64 v):=⟨by rw [b224.cell hlow.1,← b219.cell hlow.1]; exact hS19.1,by rw [b224.cell hlow.2,← b219.cell hlow.2]; exact hS19.2⟩
     rw [hW24,hgb9]
     rw [hgb9] at n90
     replace hW24:=Hd hW24
     replace hgb9:=Hd hgb9
     refine hK.out _ _ hS24 fun _=>?_
     clear hK KK bb RW19 oo
     refine wpAnyH_ready (rs:=[6]) (by kernel_rfl) (by simp) (AllReadyH.cons rfl (fun KK hK=>?_) (AllReadyH.nil))
     ·go_simp
      refine (hwv.out W24 (hG2.out.below b224) (hL2.out.below b224)).mono ?_
      rintro e W25 ⟨x,y,z,rfl,bb,hz,L',C',Q',aL,aC,aQ,bL,bC,bQ,hwi,rfl,rfl,fw,Rw,k10,k11,k20,k21,k30,k31⟩
      subst hz
      obtain ⟨aLa,aLn,aLc,haL⟩:=(Rw.ownI k10).at.shape
      subst haL
      obtain ⟨bLa,bLn,bLc,hbL⟩:=(Rw.ownI k11).at.shape
      subst hbL
      obtain ⟨aCa,aCn,aCc,haC⟩:=(Rw.ownI k20).at.shape
      subst haC
      obtain ⟨bCa,bCn,bCc,hbC⟩:=(Rw.ownI k21).at.shape
      subst hbC
      obtain ⟨aQa,aQn,aQc,haQ⟩:=(Rw.ownI k30).at.shape
      subst haQ
      obtain ⟨bQa,bQn,bQc,hbQ⟩:=(Rw.ownI k31).at.shape
      subst hbQ
      obtain ⟨f25,RW25,sel,oth⟩:=RW24.merge (fun i=>decide (i.1=1∨i.1=2∨i.1=3)) bb Rw hB24
      replace n02:=(oth (0,2) (by decide)).trans n02
      replace n03:=(oth (0,3) (by decide)).trans n03
      replace n91:=(oth (9,1) (by decide)).trans n91
      replace n90:=(oth (9,0) (by decide)).trans n90
      have n10:=(sel (1,0) (by decide)).trans k10
      have n11:=(sel (1,1) (by decide)).trans k11
      have n20:=(sel (2,0) (by decide)).trans k20
      have n21:=(sel (2,1) (by decide)).trans k21
      have n30:=(sel (3,0) (by decide)).trans k30
      have n31:=(sel (3,1) (by decide)).trans k31
      replace hwi:=Hd hwi
      clear sel oth k10 k11 k20 k21 k30 k31 Rw
      have bW25:=bW24.trans (bb.mono hB24)
      have b225:=Below.step b224 bb
      have hB25:=bW25.size
      have hS25:W25.cell? ⟨w.heap.size,0,none⟩=some (.int .i64 K)∧W25.cell? ra=some (.int .i64 v):=⟨by rw [b225.cell hlow.1,← b224.cell hlow.1]; exact hS24.1,by rw [b225.cell hlow.2,← b224.cell hlow.2]; exact hS24.2⟩
      refine hK.out _ _ hS25 fun _=>?_
      clear hK KK bb RW24
      refine pqD 7 39 hS25 ?_
      refine pqD 8 47 hS25 ?_
      refine pqD 9 48 hS25 ?_
      refine pqD 10 49 hS25 ?_
      obtain ⟨t0,t1,t2,t3⟩:=RW25.cells4 n90
      have ft0:=RW25.frz4 n90 0
      have ft1:=RW25.frz4 n90 1
      have ft2:=RW25.frz4 n90 2
      have ft3:=RW25.frz4 n90 3
      have lt:=(RW25.low4 n90)
      obtain ⟨f26,RW26,mm,oo⟩:=RW25.all4 n90 (.int .i64 0) (.slice aLa aLn aLc) (.slice aCa aCn aCc) (.slice aQa aQn aQc)
      replace n02:=(oo (0,2) (by decide)).trans n02
      replace n03:=(oo (0,3) (by decide)).trans n03
      replace n91:=(oo (9,1) (by decide)).trans n91
      replace n10:=(oo (1,0) (by decide)).trans n10
      replace n11:=(oo (1,1) (by decide)).trans n11
      replace n20:=(oo (2,0) (by decide)).trans n20
      replace n21:=(oo (2,1) (by decide)).trans n21
      replace n30:=(oo (3,0) (by decide)).trans n30
      replace n31:=(oo (3,1) (by decide)).trans n31
      clear n90
      have n90:=mm
      have bW26:=Below.all4 (g:=gb9) bW25 lt.1 (.int .i64 0) (.slice aLa aLn aLc) (.slice aCa aCn aCc) (.slice aQa aQn aQc)
      have b226:=Below.all4 (g:=gb9) b225 lgb9 (.int .i64 0) (.slice aLa aLn aLc) (.slice aCa aCn aCc) (.slice aQa aQn aQc)
      obtain ⟨W26,hW26⟩:∃ W':World,(((W25.setCell ⟨gb9,0,none⟩ (.int .i64 0)).setCell ⟨gb9,1,none⟩ (.slice aLa aLn aLc)).setCell ⟨gb9,2,none⟩ (.slice aCa aCn aCc)).setCell ⟨gb9,3,none⟩ (.slice aQa aQn aQc)=W':=⟨_,rfl⟩
      rw [hW26] at RW26 bW26 b226
      have hS26:W26.cell? ⟨w.heap.size,0,none⟩=some (.int .i64 K)∧W26.cell? ra=some (.int .i64 v):=⟨by rw [b226.cell hlow.1,← b225.cell hlow.1]; exact hS25.1,by rw [b226.cell hlow.2,← b225.cell hlow.2]; exact hS25.2⟩
      replace hW26:=Hd hW26
      refine wpAnyH_ready (rs:=[13]) (by kernel_rfl) (by simp) (AllReadyH.cons rfl (fun KK hK=>?_) AllReadyH.nil)
      go_simp
      rw [hW26.out]
      refine hK.out _ _ hS26 fun _=>?_
      clear hK KK t0 t1 t2 t3 ft0 ft1 ft2 ft3 mm oo lt RW25 hW26
      obtain ⟨t0,t1,t2,t3⟩:=RW26.cells4 n91
      have ft0:=RW26.frz4 n91 0
      have ft1:=RW26.frz4 n91 1
      have ft2:=RW26.frz4 n91 2
      have ft3:=RW26.frz4 n91 3
      have lt:=(RW26.low4 n91)
      obtain ⟨f27,RW27,mm,oo⟩:=RW26.all4 n91 (.int .i64 0) (.slice bLa bLn bLc) (.slice bCa bCn bCc) (.slice bQa bQn bQc)
      replace n02:=(oo (0,2) (by decide)).trans n02
      replace n03:=(oo (0,3) (by decide)).trans n03
      replace n90:=(oo (9,0) (by decide)).trans n90
      replace n10:=(oo (1,0) (by decide)).trans n10
      replace n11:=(oo (1,1) (by decide)).trans n11
      replace n20:=(oo (2,0) (by decide)).trans n20
      replace n21:=(oo (2,1) (by decide)).trans n21
      replace n30:=(oo (3,0) (by decide)).trans n30
      replace n31:=(oo (3,1) (by decide)).trans n31
      clear n91
      have n91:=mm
      have bW27:=Below.all4 (g:=gb10) bW26 lt.1 (.int .i64 0) (.slice bLa bLn bLc) (.slice bCa bCn bCc) (.slice bQa bQn bQc)
      have b227:=Below.all4 (g:=gb10) b226 lgb10 (.int .i64 0) (.slice bLa bLn bLc) (.slice bCa bCn bCc) (.slice bQa bQn bQc)
      obtain ⟨W27,hW27⟩:∃ W':World,(((W26.setCell ⟨gb10,0,none⟩ (.int .i64 0)).setCell ⟨gb10,1,none⟩ (.slice bLa bLn bLc)).setCell ⟨gb10,2,none⟩ (.slice bCa bCn bCc)).setCell ⟨gb10,3,none⟩ (.slice bQa bQn bQc)=W':=⟨_,rfl⟩
      rw [hW27] at RW27 bW27 b227
      have hS27:W27.cell? ⟨w.heap.size,0,none⟩=some (.int .i64 K)∧W27.cell? ra=some (.int .i64 v):=⟨by rw [b227.cell hlow.1,← b226.cell hlow.1]; exact hS26.1,by rw [b227.cell hlow.2,← b226.cell hlow.2]; exact hS26.2⟩
      replace hW27:=Hd hW27
      refine wpAnyH_ready (rs:=[14]) (by kernel_rfl) (by simp) (AllReadyH.cons rfl (fun KK hK=>?_) AllReadyH.nil)
      go_simp
      rw [hW27.out]
      refine hK.out _ _ hS27 fun _=>?_
      clear hK KK t0 t1 t2 t3 ft0 ft1 ft2 ft3 mm oo lt RW26 hW27
      refine pqD 15 7 hS27 ?_
      refine wpAnyH_done (by kernel_rfl) ?_ _
      refine NoPanic.normal ?_
      replace n02:=Hd n02
      replace n03:=Hd n03
      replace n90:=Hd n90
      replace n91:=Hd n91
      replace n10:=Hd n10
      replace n11:=Hd n11
      replace n20:=Hd n20
      replace n21:=Hd n21
      replace n30:=Hd n30
      replace n31:=Hd n31
      replace RW27:=Hd RW27
      go_wp2
      go_meet
      case rel=>exact ⟨rfl,gb9,gb10,L',C',Q',_,_,_,_,_,_,f27,rfl,rfl,bW27,hwi.out,RW27.out,n02.out,n03.out,n90.out,n91.out,n10.out,n11.out,n20.out,n21.out,n30.out,n31.out⟩
  case rest =>
   obtain ⟨rfl,g9,g10,L',C',Q',aL,aC,aQ,bL,bC,bQ,f9,rfl,rfl,bc,hwi,Rc,n02,n03,n90,n91,n10,n11,n20,n21,n30,n31⟩:=hcut
   obtain ⟨aLa,aLn,aLc,haL⟩:=(Rc.ownI n10).at.shape
   subst haL
   obtain ⟨bLa,bLn,bLc,hbL⟩:=(Rc.ownI n11).at.shape
   subst hbL
   obtain ⟨aCa,aCn,aCc,haC⟩:=(Rc.ownI n20).at.shape
   subst haC
   obtain ⟨bCa,bCn,bCc,hbC⟩:=(Rc.ownI n21).at.shape
   subst hbC
   obtain ⟨aQa,aQn,aQc,haQ⟩:=(Rc.ownI n30).at.shape
   subst haQ
   obtain ⟨bQa,bQn,bQc,hbQ⟩:=(Rc.ownI n31).at.shape
   subst hbQ
   have honeR:=honeL.out v m L' C' Q' hod.out hwi
   clear hwi
   replace honeR:=Hd honeR
   obtain ⟨V,hVd⟩:∃ V:World,wc.drew=V:=⟨_,rfl⟩
   have RV:Rows w.heap.size V f9:=by rw [← hVd]; exact Rc.drew
   have bV:Below w.heap.size w V:=by rw [← hVd]; exact bc.drew
   replace hVd:=Hd hVd
   clear Rc bc
   have hS:V.cell? ⟨g9,0,none⟩=some (.int .i64 0)∧V.cell? ⟨g9,1,none⟩=some (.slice aLa aLn aLc)∧V.cell? ⟨g9,2,none⟩=some (.slice aCa aCn aCc)∧V.cell? ⟨g9,3,none⟩=some (.slice aQa aQn aQc)∧V.cell? ⟨g10,0,none⟩=some (.int .i64 0)∧V.cell? ⟨g10,1,none⟩=some (.slice bLa bLn bLc)∧V.cell? ⟨g10,2,none⟩=some (.slice bCa bCn bCc)∧V.cell? ⟨g10,3,none⟩=some (.slice bQa bQn bQc):=by
    obtain ⟨a0,a1,a2,a3⟩:=RV.cells4 n90
    obtain ⟨d0,d1,d2,d3⟩:=RV.cells4 n91
    exact ⟨a0,a1,a2,a3,d0,d1,d2,d3⟩
   obtain ⟨g0,g1,g2,g3⟩:=RV.cells4 n02
   have fg0:=RV.frz4 n02 0
   have fg1:=RV.frz4 n02 1
   have fg2:=RV.frz4 n02 2
   have fg3:=RV.frz4 n02 3
   have lg0:=(RV.low4 n02).1
   obtain ⟨f15,R15,m02,o15⟩:=RV.all4 n02 (.int .i64 0) (.slice aLa aLn aLc) (.slice aCa aCn aCc) (.slice aQa aQn aQc)
   replace n03:=(o15 (0,3) (by decide)).trans n03
   replace n90:=(o15 (9,0) (by decide)).trans n90
   replace n91:=(o15 (9,1) (by decide)).trans n91
   replace n10:=(o15 (1,0) (by decide)).trans n10
   replace n11:=(o15 (1,1) (by decide)).trans n11
   replace n20:=(o15 (2,0) (by decide)).trans n20
   replace n21:=(o15 (2,1) (by decide)).trans n21
   replace n30:=(o15 (3,0) (by decide)).trans n30
   replace n31:=(o15 (3,1) (by decide)).trans n31
   have b15:=Below.all4 (g:=w.heap.size+1) bV lg0 (.int .i64 0) (.slice aLa aLn aLc) (.slice aCa aCn aCc) (.slice aQa aQn aQc)
   obtain ⟨V15,hV15⟩:∃ V':World,(((V.setCell ⟨w.heap.size+1,0,none⟩ (.int .i64 0)).setCell ⟨w.heap.size+1,1,none⟩ (.slice aLa aLn aLc)).setCell ⟨w.heap.size+1,2,none⟩ (.slice aCa aCn aCc)).setCell ⟨w.heap.size+1,3,none⟩ (.slice aQa aQn aQc)=V':=⟨_,rfl⟩
   rw [hV15] at R15 b15
   have hS15:V15.cell? ⟨g9,0,none⟩=some (.int .i64 0)∧V15.cell? ⟨g9,1,none⟩=some (.slice aLa aLn aLc)∧V15.cell? ⟨g9,2,none⟩=some (.slice aCa aCn aCc)∧V15.cell? ⟨g9,3,none⟩=some (.slice aQa aQn aQc)∧V15.cell? ⟨g10,0,none⟩=some (.int .i64 0)∧V15.cell? ⟨g10,1,none⟩=some (.slice bLa bLn bLc)∧V15.cell? ⟨g10,2,none⟩=some (.slice bCa bCn bCc)∧V15.cell? ⟨g10,3,none⟩=some (.slice bQa bQn bQc):=by
    obtain ⟨a0,a1,a2,a3⟩:=R15.cells4 n90
    obtain ⟨d0,d1,d2,d3⟩:=R15.cells4 n91
    exact ⟨a0,a1,a2,a3,d0,d1,d2,d3⟩
   replace hV15:=Hd hV15
   clear n02 o15 RV bV lg0
   have n02:=m02
   clear m02
   go_upto_region 8 with fail
   refine wp_region_plan (fun w'=>w'.cell? ⟨g9,0,none⟩=some (.int .i64 0)∧w'.cell? ⟨g9,1,none⟩=some (.slice aLa aLn aLc)∧w'.cell? ⟨g9,2,none⟩=some (.slice aCa aCn aCc)∧w'.cell? ⟨g9,3,none⟩=some (.slice aQa aQn aQc)∧w'.cell? ⟨g10,0,none⟩=some (.int .i64 0)∧w'.cell? ⟨g10,1,none⟩=some (.slice bLa bLn bLc)∧w'.cell? ⟨g10,2,none⟩=some (.slice bCa bCn bCc)∧w'.cell? ⟨g10,3,none⟩=some (.slice bQa bQn bQc)) 6 [(0,true),(1,true),(2,true),(3,true),(4,false),(5,false)] (by kernel_rfl) (by kernel_rfl) ?_
   rw [hVd.out]
   refine pqY 50 hS ?_
   refine pqY 51 hS ?_
   refine pqY 52 hS ?_
   refine pqY 2 hS ?_
   refine headC rfl (fun KK hK=>?_)
   go_simp
   rw [hV15.out]
   refine hK _ _ hS15 ?_
   clear hK KK hS g0 g1 g2 g3 fg0 fg1 fg2 fg3
   obtain ⟨h0,h1,h2,h3⟩:=R15.cells4 n03
   have fh0:=R15.frz4 n03 0
   have fh1:=R15.frz4 n03 1
   have fh2:=R15.frz4 n03 2
   have fh3:=R15.frz4 n03 3
   have lh0:=(R15.low4 n03).1
   obtain ⟨f16,R16,m03,o16⟩:=R15.all4 n03 (.int .i64 0) (.slice bLa bLn bLc) (.slice bCa bCn bCc) (.slice bQa bQn bQc)
   replace n02:=(o16 (0,2) (by decide)).trans n02
   replace n90:=(o16 (9,0) (by decide)).trans n90
   replace n91:=(o16 (9,1) (by decide)).trans n91
   replace n10:=(o16 (1,0) (by decide)).trans n10
   replace n11:=(o16 (1,1) (by decide)).trans n11
   replace n20:=(o16 (2,0) (by decide)).trans n20
   replace n21:=(o16 (2,1) (by decide)).trans n21
   replace n30:=(o16 (3,0) (by decide)).trans n30
   replace n31:=(o16 (3,1) (by decide)).trans n31
   have b16:=Below.all4 (g:=w.heap.size+2) b15 lh0 (.int .i64 0) (.slice bLa bLn bLc) (.slice bCa bCn bCc) (.slice bQa bQn bQc)
   obtain ⟨V16,hV16⟩:∃ V':World,(((V15.setCell ⟨w.heap.size+2,0,none⟩ (.int .i64 0)).setCell ⟨w.heap.size+2,1,none⟩ (.slice bLa bLn bLc)).setCell ⟨w.heap.size+2,2,none⟩ (.slice bCa bCn bCc)).setCell ⟨w.heap.size+2,3,none⟩ (.slice bQa bQn bQc)=V':=⟨_,rfl⟩
   rw [hV16] at R16 b16
   have hS16:V16.cell? ⟨g9,0,none⟩=some (.int .i64 0)∧V16.cell? ⟨g9,1,none⟩=some (.slice aLa aLn aLc)∧V16.cell? ⟨g9,2,none⟩=some (.slice aCa aCn aCc)∧V16.cell? ⟨g9,3,none⟩=some (.slice aQa aQn aQc)∧V16.cell? ⟨g10,0,none⟩=some (.int .i64 0)∧V16.cell? ⟨g10,1,none⟩=some (.slice bLa bLn bLc)∧V16.cell? ⟨g10,2,none⟩=some (.slice bCa bCn bCc)∧V16.cell? ⟨g10,3,none⟩=some (.slice bQa bQn bQc):=by
    obtain ⟨a0,a1,a2,a3⟩:=R16.cells4 n90
    obtain ⟨d0,d1,d2,d3⟩:=R16.cells4 n91
    exact ⟨a0,a1,a2,a3,d0,d1,d2,d3⟩
   replace hV16:=Hd hV16
   clear n03 o16 R15 b15 lh0
   have n03:=m03
   clear m03
   refine headC rfl (fun KK hK=>?_)
   go_simp
   rw [hV16.out]
   refine hK _ _ hS16 ?_
   clear hK KK hS15 h0 h1 h2 h3 fh0 fh1 fh2 fh3
   refine head0 ?_
   simp only [List.drop_succ_cons,List.drop_zero]
   clear hS16
   obtain ⟨g0,g1,g2,g3⟩:=R16.cells4 n02
   obtain ⟨h0,h1,h2,h3⟩:=R16.cells4 n03
   replace n02:=Hd n02
   replace n03:=Hd n03
   replace n90:=Hd n90
   replace n91:=Hd n91
   replace n10:=Hd n10
   replace n11:=Hd n11
   replace n20:=Hd n20
   replace n21:=Hd n21
   replace n30:=Hd n30
   replace n31:=Hd n31
   replace R16:=Hd R16
   go_wp2
   refine NoPanic.normal ?_
   go_wp2
   (try simp only [Exit.inBlock,Exit.then])
   refine bodyPost_ret (v:=.tuple #[.bool false,.agg #[.int .i64 0,.slice aLa aLn aLc,.slice aCa aCn aCc,.slice aQa aQn aQc],.agg #[.int .i64 0,.slice bLa bLn bLc,.slice bCa bCn bCc,.slice bQa bQn bQc],.nilIface]) (by simp [results,Tryz.results15,go_sem,g0,g1,g2,g3,h0,h1,h2,h3]) rfl ?_
   exact ⟨_,_,_,_,rfl,b16,rfl,.inr ⟨rfl,hno.out,L',C',Q',_,_,_,_,_,_,honeR.out,rfl,rfl,f16,R16.out,n10.out,n11.out,n20.out,n21.out,n30.out,n31.out⟩⟩
theorem WitIs.pos {G:List (List Int)} {v:Nat} {L C Q:List Nat} (h:WitIs G v L C Q):1≤L.length∧1≤Q.length:=by
 obtain ⟨c,d,u1,u2,I,O,_,_,hc,_,h3,_,_,_,rfl,rfl,rfl⟩:=h
 refine ⟨?_,by simp⟩
 have he:=h3.way.ends
 obtain ⟨w',hw⟩:=h3.way.ne
 cases hd:u1.dropLast with
 | nil =>
  rw [hd,hw] at he
  simp at he
  omega
 | cons x l=>simp
theorem OneIs.pos {K R:Nat} {T:List Int} {L C Q:List Nat} (h:OneIs K R T L C Q):1≤L.length∧1≤Q.length:=by
 obtain ⟨_,_,_,_,_,h3⟩:=h
 exact h3.pos
theorem OnePost.ans {w w':World} {K R:Nat} {T:List Int} {yes x y e:Value} (h:OnePost w K R T yes x y e w'):e=.nilIface∧∃ Y,yes=.bool Y∧(Y=true↔¬ NotOne K R T) ∧
 ∃ a1 n1 c1 a2 n2 c2 a3 n3 c3 a4 n4 c4 a5 n5 c5 a6 n6 c6,x=.agg #[.int .i64 0,.slice a1 n1 c1,.slice a2 n2 c2,.slice a3 n3 c3]∧y=.agg #[.int .i64 0,.slice a4 n4 c4,.slice a5 n5 c5,.slice a6 n6 c6]:=by
 obtain ⟨rfl,⟨rfl,rfl,rfl,hn⟩ | ⟨rfl,hn,L,C,Q,aL,aC,aQ,bL,bC,bQ,_,rfl,rfl,f,hr,h1,h2,h3,h4,h5,h6⟩⟩:=h
 ·exact ⟨rfl,true,rfl,⟨fun _=>hn,fun _=>rfl⟩,_,_,_,_,_,_,_,_,_,_,_,_,_,_,_,_,_,_,rfl,rfl⟩
 ·obtain ⟨_,_,_,rfl⟩:=(hr.ownI h1).at.shape
  obtain ⟨_,_,_,rfl⟩:=(hr.ownI h2).at.shape
  obtain ⟨_,_,_,rfl⟩:=(hr.ownI h3).at.shape
  obtain ⟨_,_,_,rfl⟩:=(hr.ownI h4).at.shape
  obtain ⟨_,_,_,rfl⟩:=(hr.ownI h5).at.shape
  obtain ⟨_,_,_,rfl⟩:=(hr.ownI h6).at.shape
  exact ⟨rfl,false,rfl,⟨fun h=>(by cases h),fun h=>absurd hn h⟩,_,_,_,_,_,_,_,_,_,_,_,_,_,_,_,_,_,_,rfl,rfl⟩
theorem cmp_ge {a b:Nat} (h:a≤b):decide (cmpN b a<0)=false:=by
 unfold cmpN
 rw [if_neg (by omega)]
 split<;>decide
theorem cmp_bd (a b:Nat):-1≤cmpN a b∧cmpN a b≤1:=by
 unfold cmpN
 split
 ·omega
 ·split<;>omega
theorem wholeRings_bad (r:Nat→Addr) (k R:Int) (va:Option Addr) (vn vc:Nat) (T:List Int) (ua:Option Addr) (un uc:Nat) (s:Int) (t:Int×List (ByteArray×Int)) (w:World) (hg:Glob r w) (hG:GlobE w) (h:IntsAt w (.slice va vn vc) T) (hc:smallP k R T=some t) :
 Calls Tryz.prog 4 #[.agg #[.int .i64 k,.int .i64 R,.slice va vn vc],.slice ua un uc,.int .i64 s] w (Ret1 (fun x _=>x=.bool true) w):=by
 have b0:=belowAlloc w (.cells #[.int .i64 k,.int .i64 R,.slice va vn vc] 24)
 have q:Box3 (w.alloc (.cells #[.int .i64 k,.int .i64 R,.slice va vn vc] 24)) w.heap.size (.int .i64 k) (.int .i64 R) (.slice va vn vc):=by simp [Box3,go_sem]
 replace hg:=Hd (hg.below b0)
 replace hG:=Hd (hG.below b0)
 replace h:=Hd (h.below b0)
 replace hc:=Hd hc
 go_enter Tryz.func4,Tryz.ntmps4
 go_wp2_with fail
 refine (counts_any r _ hg.out hG.out).mono ?_
 rintro e w1 ⟨_,rfl,b1,rfl⟩
 obtain ⟨⟨z0,z1,z2⟩,-,-,-⟩:=q.below b1
 go_wp2_with fail
 refine (count_Rings_bad r k R va vn vc T ua un uc w1 (hg.out.below b1) (h.out.below b1) t hc.out).mono ?_
 rintro e w2 ⟨x,y,rfl,b2,rfl,hy⟩
 obtain ⟨T5,a5,rfl⟩:∃ T a,y=.iface T (.pointer (some a)):=by
  unfold under at hy
  exact hy.some_shape
 have bb:=Below.step b0 (Below.step b1 b2)
 clear hy z0 z1 z2
 go_wp2
 go_ret
 exact ⟨_,rfl,bb,rfl⟩
theorem wholeRings_ok (r:Nat→Addr) (K R:Nat) (va:Option Addr) (vn vc:Nat) (T:List Int) (u:Value) (ws:List Int) (s:Int) (w:World) (hg:Glob r w) (hG:GlobE w) (h:IntsAt w (.slice va vn vc) T) (hu:IntsAt w u ws) (hr:RuleOk K R T) (hl:T.length≤256) :
 Calls Tryz.prog 4 #[.agg #[.int .i64 K,.int .i64 R,.slice va vn vc],u,.int .i64 s] w (Ret1 (fun x _=>x=.bool true) w):=by
 obtain ⟨ua,un,uc,rfl⟩:=hu.shape
 have lu:=hu.len
 have b0:=belowAlloc w (.cells #[.int .i64 K,.int .i64 R,.slice va vn vc] 24)
 have q:Box3 (w.alloc (.cells #[.int .i64 K,.int .i64 R,.slice va vn vc] 24)) w.heap.size (.int .i64 K) (.int .i64 R) (.slice va vn vc):=by simp [Box3,go_sem]
 replace hg:=Hd (hg.below b0)
 replace hG:=Hd (hG.below b0)
 replace h:=Hd (h.below b0)
 replace hu:=Hd (hu.below b0)
 replace q:=Hd q
 replace hr:=Hd hr
 replace b0:=Hd b0
 go_enter Tryz.func4,Tryz.ntmps4
 go_upto_region 1 with fail
 obtain ⟨w0,hw0⟩:∃ W:World,w.alloc (.cells #[.int .i64 K,.int .i64 R,.slice va vn vc] 24)=W:=⟨_,rfl⟩
 rw [hw0] at q hg hG h hu b0
 rw [hw0]
 clear hw0
 go_wp2_with fail
 refine (counts_any r _ hg.out hG.out).mono ?_
 rintro e w1 ⟨_,rfl,b1,rfl⟩
 obtain ⟨⟨z0,z1,z2⟩,-,-,-⟩:=q.out.below b1
 go_wp2_with fail
 refine (count_Rings_any r K R va vn vc T _ ws w1 (hg.out.below b1) (h.out.below b1) (hu.out.below b1) hr.out hl).mono ?_
 rintro e w2 ⟨x,y,rfl,b2,hy,hx,hx2⟩
 have c2:=Below.step b1 b2
 clear z0 z1 z2
 cases hP:ringP K ws with
 | some t =>
  rw [hP] at hy
  obtain rfl:=hx2 (by rw [hP]; simp)
  obtain ⟨T5,a5,rfl⟩:=hy.some_shape
  have bb:=Hd (b0.out.trans (c2.mono b0.out.size))
  clear hy hx hx2 hP b1 b2 c2
  go_wp2
  go_ret
  exact ⟨_,rfl,bb.out,rfl⟩
 | none =>
  rw [hP] at hy
  obtain rfl:=hy.none_eq
  have hA:=hx hP
  obtain ⟨h1,h64,hsy⟩:=ringP_none hP
  obtain ⟨aa,am,ac,rfl⟩:=hA.shape
  replace hA:=Hd hA
  replace hsy:=Hd hsy
  clear hy hx hx2 hP
  by_cases hbig:12<ws.length
  ·have d1:decide ((ws.length:Int)>12)=true:=decide_eq_true (by omega)
   have bb:=Hd (b0.out.trans (c2.mono b0.out.size))
   clear b1 b2 c2
   go_wp2
   go_ret
   exact ⟨_,rfl,bb.out,rfl⟩
  ·have d1:decide ((ws.length:Int)>12)=false:=decide_eq_false (by omega)
   obtain ⟨⟨z0,z1,z2⟩,-,-,-⟩:=q.out.below c2
   go_wp2_with fail
   refine (one_ok r K R va vn vc T w2 (hg.out.below c2) (h.out.below c2) hr.out hl).mono ?_
   rintro e w4 ⟨y1,a,b,e1,rfl,b4,hp1⟩
   obtain ⟨rfl,Y,rfl,hY,a41,n41,c41,a42,n42,c42,a43,n43,c43,a44,n44,c44,a45,n45,c45,a46,n46,c46,rfl,rfl⟩:=hp1.ans
   have b45:=Below.step (belowAlloc w4 (.cells #[.int .i64 0,.slice a41 n41 c41,.slice a42 n42 c42,.slice a43 n43 c43] 42)) (belowAlloc _ (.cells #[.int .i64 0,.slice a44 n44 c44,.slice a45 n45 c45,.slice a46 n46 c46] 42))
   have c5:=Below.step c2 (Below.step b4 b45)
   have c25:=Below.step b4 b45
   clear z0 z1 z2 hp1
   go_upto_region 7 with fail
   obtain ⟨w5,hw5⟩:∃ W:World,(w4.alloc (.cells #[.int .i64 0,.slice a41 n41 c41,.slice a42 n42 c42,.slice a43 n43 c43] 42)).alloc (.cells #[.int .i64 0,.slice a44 n44 c44,.slice a45 n45 c45,.slice a46 n46 c46] 42)=W:=⟨_,rfl⟩
   rw [hw5] at c5 c25
   rw [hw5]
   obtain ⟨W,hW⟩:∃ W:World,w5.drew=W:=⟨_,rfl⟩
   have b5W:Below w5.heap.size w5 W:=by rw [← hW]; exact (Below.refl _ _).drew
   have cW:=Below.step c5 b5W
   have hAW:=Hd (hA.out.below (Below.step c25 b5W))
   replace hg:=Hd (hg.out.below cW)
   replace h:=Hd (h.out.below cW)
   replace hu:=Hd (hu.out.below cW)
   replace q:=Hd (q.out.below cW)
   have bW:=Hd (b0.out.trans (cW.mono b0.out.size))
   replace hY:=Hd hY
   replace hW:=Hd hW
   clear hA hw5 b1 b2 b4 b45 c2 c5 c25 b5W cW b0 hG
   have hS:W.cell? ⟨w.heap.size,0,none⟩=some (.int .i64 K)∧W.cell? ⟨w.heap.size,1,none⟩=some (.int .i64 R)∧W.cell? ⟨w.heap.size,2,none⟩=some (.slice va vn vc):=q.out.1
   refine wp_region_plan (fun w'=>w'.cell? ⟨w.heap.size,0,none⟩=some (.int .i64 K)∧w'.cell? ⟨w.heap.size,1,none⟩=some (.int .i64 R)∧w'.cell? ⟨w.heap.size,2,none⟩=some (.slice va vn vc)) 9 [(0,true),(1,true),(2,true),(3,false),(4,false),(5,true),(6,true),(7,true),(8,true)] (by kernel_rfl) (by kernel_rfl) ?_
   rw [hW.out]
   refine pqY 42 hS ?_
   refine pqY 43 hS ?_
   refine pqY 44 hS ?_
   refine headC rfl (fun KK hK=>?_)
   go_simp
   refine (turn_any _ ws s W hu.out h1 h64).mono ?_
   rintro e w6 ⟨x6,rfl,b6,ho6⟩
   have hS6:=(q.out.below b6).1
   obtain ⟨xa,xm,xc,rfl⟩:=ho6.at.shape
   have hcr:=count_Rings_any r K R va vn vc T _ _ w6 (hg.out.below b6) (h.out.below b6) ho6.at hr.out hl
   rw [ringN_rot hr.out h1] at hcr
   have hP6:ringP K (rotL ws s)=none:=ringP_ok (rotL_syms hsy.out h1 s) (by rw [rotL_len]; exact h1) (by rw [rotL_len]; exact h64)
   replace hcr:=Hd hcr
   replace hP6:=Hd hP6
   clear ho6
   refine hK _ _ hS6 ?_
   clear hK KK
   refine headC rfl (fun KK hK=>?_)
   go_simp
   refine hcr.out.mono ?_
   rintro e w7 ⟨x7,y7,rfl,b7,hy7,hx7,-⟩
   rw [hP6.out] at hy7
   obtain rfl:=hy7.none_eq
   have hB:=hx7 hP6.out
   obtain ⟨ba,bm,bc,rfl⟩:=hB.shape
   have d7:=Below.step b6 b7
   have hS7:=(q.out.below d7).1
   replace hB:=Hd hB
   clear hy7 hx7 hcr
   refine hK _ _ hS7 ?_
   clear hK KK
   refine pqY 41 hS7 ?_
   refine pqY 47 hS7 ?_
   refine pqY 48 hS7 ?_
   refine pqY 13 hS7 ?_
   refine head0 ?_
   simp only [List.drop_succ_cons,List.drop_zero]
   clear hS hS6
   go_wp2
   refine NoPanic.normal ?_
   clear hS7
   go_wp2_with fail
   refine (times_any _ ws w7 (hu.out.below d7) h1 (by omega)).mono ?_
   rintro e w8 ⟨x8,y8,rfl,b8,rfl,ho8⟩
   obtain ⟨ta,tm,tc,rfl⟩:=ho8.at.shape
   have d8:=Below.step d7 b8
   obtain ⟨⟨z0,z1,z2⟩,-,-,-⟩:=q.out.below d8
   have hcr:=count_Rings_any r K R va vn vc T _ _ w8 (hg.out.below d8) (h.out.below d8) ho8.at hr.out hl
   have hP8:ringP K (ws++ws)=none:=ringP_ok (fun x hx=>hsy.out x (by simpa using hx)) (by rw [List.length_append]; omega) (by rw [List.length_append]; omega)
   replace hcr:=Hd hcr
   replace hP8:=Hd hP8
   clear ho8
   go_wp2_with fail
   refine hcr.out.mono ?_
   rintro e w9 ⟨x9,y9,rfl,b9,hy9,hx9,-⟩
   rw [hP8.out] at hy9
   obtain rfl:=hy9.none_eq
   have hC:=hx9 hP8.out
   obtain ⟨ca,cm,cc,rfl⟩:=hC.shape
   have d9:=Below.step d8 b9
   have d79:=Below.step b8 b9
   have hn1:=nats_num _ _ _ _ w9 (hAW.out.below d9) (hB.out.below d79)
   rw [decide_eq_true rfl] at hn1
   replace hn1:=Hd hn1
   replace hC:=Hd hC
   clear z0 z1 z2 hy9 hx9 hcr
   go_wp2_with fail
   refine hn1.out.mono ?_
   rintro e w10 ⟨nq,rfl,rfl⟩
   have b10:=below_drewN (Below.refl w9.heap.size w9) nq
   have hcm:=cmp_any _ _ _ _ (w9.drewN nq) (hC.out.below b10) (hAW.out.below (Below.step d9 b10))
   have hge:=cmp_ge (ringN_twice hr.out h1)
   obtain ⟨hb1,hb2⟩:=cmp_bd (ringN K R T (ws++ws)) (ringN K R T ws)
   obtain ⟨cq,hcq⟩:∃ c,cmpN (ringN K R T (ws++ws)) (ringN K R T ws)=c:=⟨_,rfl⟩
   rw [hcq] at hcm hge hb1 hb2
   replace hcm:=Hd hcm
   clear hn1
   go_wp2_with fail
   refine hcm.out.mono ?_
   rintro e w11 ⟨_,rfl,b11,rfl⟩
   have d11:=Below.step d9 (Below.step b10 b11)
   have bE:=Hd (bW.out.trans (d11.mono bW.out.size))
   have hA11:=Hd (hAW.out.below d11)
   have hone:Y=true→ringN K R T ws=1:=fun e=>ringN_one hr.out (hY.out.1 e) hsy.out h1
   replace hone:=Hd hone
   clear b6 b7 b8 b9 b10 b11 d7 d8 d9 d79 d11 hcm
   cases Y with
   | false =>
    go_wp2
    go_ret
    exact ⟨_,rfl,bE.out,rfl⟩
   | true =>
    have h1n:=hone.out rfl
    rw [h1n] at hA11
    replace hone:=Hd hone
    replace h1n:=Hd h1n
    go_wp2_with fail
    refine (nat_from 1 w11 (by decide)).mono ?_
    rintro e w12 ⟨x12,rfl,b12,hx12⟩
    have hn2:=nats_num _ _ _ _ w12 (hA11.out.below b12) hx12.num
    obtain ⟨oa,om,oc,rfl⟩:=hx12.num.shape
    rw [decide_eq_true rfl] at hn2
    replace hn2:=Hd hn2
    have bF:=Hd (bE.out.trans (b12.mono bE.out.size))
    clear hx12 b12
    go_wp2_with fail
    refine hn2.out.mono ?_
    rintro e w13 ⟨nq2,rfl,rfl⟩
    have bH:=Hd (below_drewN bF.out nq2)
    go_wp2
    go_ret
    exact ⟨_,rfl,bH.out,rfl⟩
theorem wholeRings_any (r:Nat→Addr) (k R:Int) (v:Value) (T:List Int) (u:Value) (ws:List Int) (s:Int) (w:World) (hg:Glob r w) (hG:GlobE w) (h:IntsAt w v T) (hu:IntsAt w u ws) :
 Calls Tryz.prog 4 #[.agg #[.int .i64 k,.int .i64 R,v],u,.int .i64 s] w (Ret1 (fun x _=>x=.bool true) w):=by
 obtain ⟨va,vn,vc,rfl⟩:=h.shape
 cases hc:smallP k R T with
 | some t =>
  obtain ⟨ua,un,uc,rfl⟩:=hu.shape
  exact wholeRings_bad r k R va vn vc T ua un uc s t w hg hG h hc
 | none =>
  obtain ⟨hck,hl⟩:=smallP_none hc
  obtain ⟨K,Q,rfl,rfl,hr⟩:=checkP_none hck
  exact wholeRings_ok r K Q va vn vc T u ws s w hg hG h hu hr hl
end Go.Proofs.YtkaoebokbfcmhaaGreatDoor
namespace Go.Proofs.YtkaoebokbfcmhaaGreatDoor
open Go.ChangeShapes Go.WideShapes Go.ChangeAt Go.RowKit Go.Joins
set_option maxRecDepth 100000
theorem own:ownKnob Tryz.prog.godebug=none:=by kernel_rfl
theorem laidOut:laidOutB Tryz.prog=true:=by kernel_rfl
theorem cellsInt:Tryz.prog.cellsOf 3=1:=by kernel_rfl
theorem uInt:Tryz.prog.underlying 3=some (.int .i64):=by kernel_rfl
theorem bytesInt:Tryz.prog.bytesOf 3=8:=by kernel_rfl
theorem i64_of_wf {n:Int} (h:(Lit.int .i64 n).wf=true):I64 n:=by
 have:=bounds_i64 h
 unfold I64
 omega
theorem open_intsV {H:Type} {enc:TypeId×Value→H} {W:World} {held:Bool} {fuel:Nat} {v:Value} {y:DataW H×List MemPlace}
 (h:DataW.trod enc Tryz.prog W 0 (fun _=>true) held fuel 22 [v]=some y) (hw:∀ n∈y.1.weights Tryz.prog 22,n≤reachBytes) :
 ∃ xs,IntsAt W v xs∧xs.length≤17592186043904∧∀ x∈xs,I64 x:=by
 rcases open_ints uInts uInt cellsInt h with ⟨hcs,_⟩ | ⟨a,len,cap,zs,hcs,_,hl,hm,hz,hx,hcell,hwz⟩
 ·simp at hcs
  subst hcs
  exact ⟨[],(OwnI.nil 0 W).at,by simp,by simp⟩
 ·simp at hcs
  subst hcs
  simp only [if_true] at hz
  have hzl:(zs.take len).length=len:=by simp; omega
  refine ⟨zs.take len,⟨some a,cap,by rw [hzl],by rw [hzl]; exact hl,hm,(fun e=>by cases e),fun i hi=>?_⟩,?_,fun x hx=>i64_of_wf (hwz x (List.mem_of_mem_take hx))⟩
  ·have hi':i<zs.length:=by rw [hzl] at hi; omega
   show W.cell? (a.add i)=_
   rw [hcell i hi']
   simp [List.getD,hi']
  ·rw [hx] at hw
   have:=hw ((lits (H:=H) .i64 (zs.take len)).length*8+(lits (H:=H) .i64 (zs.drop len)).length*8) (by
    simp only [DataW.weights,uInts,bytesInt,List.mem_cons]
    left; omega)
   simp only [lits,List.length_map,reachBytes] at this
   omega
theorem open_intsT {H:Type} {enc:TypeId×Value→H} {W:World} {held:Bool} {v:Value} {d:DataW H} {p:List MemPlace} {b0:Nat}
 (hv:Value.okWide Tryz.prog W .any b0 22 v) (h:DataW.Trod enc Tryz.prog W 0 (fun _=>true) held 22 v d p) (hw:∀ n∈d.weights Tryz.prog 22,n≤reachBytes) :
 ∃ xs,IntsAt W v xs∧xs.length≤17592186043904∧∀ x∈xs,I64 x:=by
 obtain ⟨a,l,c,rfl⟩:=okWide_slice uInts hv
 obtain ⟨fuel,hf⟩:=h
 exact open_intsV (y:=(d,p)) (by simpa [Value.cells] using hf) hw
theorem weights_each3 {H:Type} {t0 t1 t2:TypeId} {y0 y1 y2:DataW H} {n:Nat} (h:n∈y2.weights Tryz.prog t2):n∈DataW.weightsEach Tryz.prog [t0,t1,t2] [y0,y1,y2]:=by
 simp only [DataW.weightsEach,List.mem_append]
 exact .inr (.inr (.inl h))
theorem open_ruleV {H:Type} {enc:TypeId×Value→H} {W:World} {held:Bool} {v:Value} {d:DataW H} {p:List MemPlace} {b0:Nat}
 (hv:Value.okWide Tryz.prog W .any b0 24 v) (h:DataW.Trod enc Tryz.prog W 0 (fun _=>true) held 24 v d p) (hw:∀ n∈d.weights Tryz.prog 24,n≤reachBytes) :
 ∃ (k R:Int) (u:Value) (xs:List Int),v=.agg #[.int .i64 k,.int .i64 R,u]∧IntsAt W u xs∧xs.length≤17592186043904∧(∀ x∈xs,I64 x)∧I64 k∧I64 R:=by
 obtain ⟨v0,v1,v2,y0,y1,y2,n,rfl,rfl,rfl,h0,h1,h2⟩:=open_agg3 Tryz.underlying24 (by kernel_rfl) (by kernel_rfl) hv h
 obtain ⟨a,e0,_,wa⟩:=DataW.trod_int uInt h0
 obtain ⟨b,e1,_,wb⟩:=DataW.trod_int uInt h1
 simp at e0 e1
 subst e0 e1
 obtain ⟨xs,hx,hl,hb⟩:=open_intsV h2 fun n hn=>hw n (by
  simp only [DataW.weights,Tryz.underlying24]
  exact weights_each3 (t0:=3) (t1:=3) (t2:=22) hn)
 exact ⟨a,b,v2,xs,rfl,hx,hl,hb,i64_of_wf wa,i64_of_wf wb⟩
theorem star : "*" ++ "errors.errorString" = "*errors.errorString" := by decide
theorem rowES (u : TypeId) (h : Tryz.prog.typeName? 3 u = some "*errors.errorString") : u = 287 :=
 typeName_ptr_named (nm := "errors.errorString") (by rw [star]; kernel_rfl) (by kernel_rfl) (by decide) u (by rw [star]; exact h)
theorem pES:Tryz.prog.underlying 287=some (.pointer 307):=by kernel_rfl
theorem cES:Tryz.prog.cellsOf 307=1:=by kernel_rfl
theorem cStr:Tryz.prog.cellsOf 9=1:=by kernel_rfl
def laid12 : List (String × DataW Unit) := [("eden/api.BadRule", Rows.laid_eden_api_BadRule), ("eden/api.BadWord", Rows.laid_eden_api_BadWord), ("eden/api.BadArg", Rows.laid_eden_api_BadArg), ("eden/api.TooBig", Rows.laid_eden_api_TooBig), ("eden/api.NoBudget", Rows.laid_eden_api_NoBudget), ("eden/api.BadText", Rows.laid_eden_api_BadText), ("eden/api.BadPatch", Rows.laid_eden_api_BadPatch), ("eden/api.BadCert", Rows.laid_eden_api_BadCert), ("eden/api.NoInverse", Rows.laid_eden_api_NoInverse), ("eden/api.BadLine", Rows.laid_eden_api_BadLine), ("eden/api.BadState", Rows.laid_eden_api_BadState), ("eden/api.Unknown", Rows.laid_eden_api_Unknown)]
theorem sentinel {n:String} {text:List UInt8} {r:List (String×DataW Unit)} {W:World} {g:Nat}
 (h : laidMet Tryz.prog ((n, .iface "*errors.errorString" (.ptr (.agg [.lit (.string text)]))) :: r) W)
 (hg:Tryz.prog.globalNamed n=some g) (ht:(Tryz.prog.globals[g]?).map (·.type)=some 27) :
 (∃ a:Addr,W.cell? ⟨g,0,none⟩=some (.iface 287 (.pointer (some a)))∧∃ s,W.cell? a=some (.string s)∧s.data.toList=text∧∃ c t,W.heap[a.block]?=some (.cells c t (0,0)))∧laidMet Tryz.prog r W:=by
 refine ⟨?_,h.tail⟩
 obtain ⟨ps,⟨g0,t0,cs0,f0,p0,q0,hg0,ht0,hv0,hd0,_,e0⟩,_,hrows⟩:=h
 obtain rfl:=Option.some.inj (hg.symm.trans hg0)
 obtain rfl:=Option.some.inj (ht.symm.trans ht0)
 subst e0
 obtain ⟨l0⟩:=cs0
 have ok0:∀ u v,l0=[.iface u v]→Value.okWide Tryz.prog W .any 0 u v:=fun u v e=>by
  subst e
  exact (hrows g 0 (by simp [MemPlace.row])).2 u v (by simpa using World.var?_cell hg hv0 0)
 obtain ⟨a0,s0,rfl,hc0,hs0,hz0,rfl⟩:=errorString_of_trod Tryz.underlying27 rowES pES Tryz.underlying307 rfl rfl Tryz.underlying9 cES cStr hd0 ok0
 exact ⟨a0,by simpa using World.var?_cell hg hv0 0,s0,hc0,hs0,(hrows a0.block a0.off (by simp [MemPlace.row])).1⟩
def txt:Nat→List UInt8
 | 1=>[98,97,100,32,114,117,108,101]
 | 2=>[98,97,100,32,119,111,114,100]
 | 3=>[98,97,100,32,97,114,103,117,109,101,110,116]
 | 4=>[116,111,111,32,98,105,103]
 | 5=>[110,111,32,98,117,100,103,101,116]
 | 6=>[98,97,100,32,116,101,120,116]
 | 7=>[98,97,100,32,112,97,116,99,104]
 | 8=>[98,97,100,32,99,101,114,116,105,102,105,99,97,116,101]
 | 9=>[110,111,32,105,110,118,101,114,115,101]
 | 10=>[98,97,100,32,108,105,110,101]
 | 11=>[98,97,100,32,115,116,97,116,101]
 | 99=>[117,110,107,110,111,119,110]
 | _=>[]
theorem txt_apart:∀ m n:Fin 12,1≤m.val→1≤n.val→txt m.val=txt n.val→m=n:=by decide
theorem glob_of_laidR {W:World} {l:List (String×DataW Unit)} (h:laidMet Tryz.prog (laid12++l) W):∃ r,Glob r W:=by
 obtain ⟨⟨a1,c1,s1,e1,t1,f1⟩,h⟩:=sentinel (text:=txt 1) h (g:=0) (by kernel_rfl) (by kernel_rfl)
 obtain ⟨⟨a2,c2,s2,e2,t2,f2⟩,h⟩:=sentinel (text:=txt 2) h (g:=4) (by kernel_rfl) (by kernel_rfl)
 obtain ⟨⟨a3,c3,s3,e3,t3,f3⟩,h⟩:=sentinel (text:=txt 3) h (g:=5) (by kernel_rfl) (by kernel_rfl)
 obtain ⟨⟨a4,c4,s4,e4,t4,f4⟩,h⟩:=sentinel (text:=txt 4) h (g:=1) (by kernel_rfl) (by kernel_rfl)
 obtain ⟨⟨a5,c5,s5,e5,t5,f5⟩,h⟩:=sentinel (text:=txt 5) h (g:=6) (by kernel_rfl) (by kernel_rfl)
 obtain ⟨⟨a6,c6,s6,e6,t6,f6⟩,h⟩:=sentinel (text:=txt 6) h (g:=7) (by kernel_rfl) (by kernel_rfl)
 obtain ⟨⟨a7,c7,s7,e7,t7,f7⟩,h⟩:=sentinel (text:=txt 7) h (g:=8) (by kernel_rfl) (by kernel_rfl)
 obtain ⟨⟨a8,c8,s8,e8,t8,f8⟩,h⟩:=sentinel (text:=txt 8) h (g:=9) (by kernel_rfl) (by kernel_rfl)
 obtain ⟨⟨a9,c9,s9,e9,t9,f9⟩,h⟩:=sentinel (text:=txt 9) h (g:=2) (by kernel_rfl) (by kernel_rfl)
 obtain ⟨⟨a10,c10,s10,e10,t10,f10⟩,h⟩:=sentinel (text:=txt 10) h (g:=10) (by kernel_rfl) (by kernel_rfl)
 obtain ⟨⟨a11,c11,s11,e11,t11,f11⟩,h⟩:=sentinel (text:=txt 11) h (g:=11) (by kernel_rfl) (by kernel_rfl)
 obtain ⟨⟨a99,c99,s99,e99,t99,f99⟩,h⟩:=sentinel (text:=txt 99) h (g:=12) (by kernel_rfl) (by kernel_rfl)
 clear h
 have key:∀ n:Nat,(1≤n∧n≤11)∨n=99→∃ s,W.cell? ((fun n:Nat=>match n with | 1=>a1 | 2=>a2 | 3=>a3 | 4=>a4 | 5=>a5 | 6=>a6 | 7=>a7 | 8=>a8 | 9=>a9 | 10=>a10 | 11=>a11 | _=>a99) n)=some (.string s)∧s.data.toList=txt n∧∃ c t,W.heap[((fun n:Nat=>match n with | 1=>a1 | 2=>a2 | 3=>a3 | 4=>a4 | 5=>a5 | 6=>a6 | 7=>a7 | 8=>a8 | 9=>a9 | 10=>a10 | 11=>a11 | _=>a99) n).block]?=some (.cells c t (0,0)):=by
  intro n hn
  have:n=1∨n=2∨n=3∨n=4∨n=5∨n=6∨n=7∨n=8∨n=9∨n=10∨n=11∨n=99:=by omega
  rcases this with rfl | rfl | rfl | rfl | rfl | rfl | rfl | rfl | rfl | rfl | rfl | rfl
  ·exact ⟨s1,e1,t1,f1⟩
  ·exact ⟨s2,e2,t2,f2⟩
  ·exact ⟨s3,e3,t3,f3⟩
  ·exact ⟨s4,e4,t4,f4⟩
  ·exact ⟨s5,e5,t5,f5⟩
  ·exact ⟨s6,e6,t6,f6⟩
  ·exact ⟨s7,e7,t7,f7⟩
  ·exact ⟨s8,e8,t8,f8⟩
  ·exact ⟨s9,e9,t9,f9⟩
  ·exact ⟨s10,e10,t10,f10⟩
  ·exact ⟨s11,e11,t11,f11⟩
  ·exact ⟨s99,e99,t99,f99⟩
 refine ⟨(fun n:Nat=>match n with | 1=>a1 | 2=>a2 | 3=>a3 | 4=>a4 | 5=>a5 | 6=>a6 | 7=>a7 | 8=>a8 | 9=>a9 | 10=>a10 | 11=>a11 | _=>a99),c1,c2,c3,c4,c5,c6,c7,c8,c9,c10,c11,c99,(fun n hn=>?_),fun m n hm1 hm2 hn1 hn2 he=>?_,fun n hn=>?_⟩
 ·obtain ⟨s,hs,_⟩:=key n hn
  exact ⟨s,hs⟩
 ·obtain ⟨s,hs,ts,_⟩:=key m.toNat (by omega)
  obtain ⟨s',hs',ts',_⟩:=key n.toNat (by omega)
  have hss:s=s':=by
   have:=hs.symm.trans ((congrArg W.cell? he).trans hs')
   simpa using this
  subst hss
  have:=txt_apart ⟨m.toNat,by omega⟩ ⟨n.toNat,by omega⟩ (by simp; omega) (by simp; omega) (ts.symm.trans ts')
  have:=congrArg Fin.val this
  simp at this
  omega
 ·obtain ⟨_,_,_,hf⟩:=key n hn
  exact hf
theorem glob_of_laid {W:World} (h:laidMet Tryz.prog laid12 W):∃ r,Glob r W:=glob_of_laidR (l:=[]) h
end Go.Proofs.YtkaoebokbfcmhaaGreatDoor
namespace Go.Proofs.YtkaoebokbfcmhaaGreatDoor
open Go.RowKit
set_option maxRecDepth 100000
def laid13 : List (String × DataW Unit) := ("errors.errorType", Rows.laid_errors_errorType) :: laid12
theorem rtypeNo : (Tryz.prog.cutTypes.find? (·.1 == "internal/reflectlite.rtype")).map (·.2) = some 192 := by kernel_rfl
theorem errorTypeNo : Tryz.prog.globalNamed "errors.errorType" = some 3 := by kernel_rfl
theorem typesNo:Tryz.prog.types.size=419-100:=by kernel_rfl
theorem oneError:((List.range (419-100)).filter fun t=>Tryz.prog.rowNamed t [101,114,114,111,114])=[27]:=by kernel_rfl
theorem handleErr:typeHandle Tryz.prog 27=.pointer (some ⟨13,27,none⟩):=by kernel_rfl
theorem glob_of_laidH {W:World} (h:laidMetH Tryz.prog laid13 W):∃ r,Glob r W∧GlobE W:=by
 have h' : laidMet Tryz.prog laid12 W ∧ handlesMet Tryz.prog [("errors.errorType", Rows.laid_errors_errorType)] W := h
 obtain ⟨r,hg⟩:=glob_of_laid h'.1
 refine ⟨r,hg,?_⟩
 obtain ⟨name,u,ty,e1,e2,e3,e4,e5⟩:=h'.2 _ (List.mem_cons_self ..)
 have en:name=[101,114,114,111,114]:=(Option.some.inj e1).symm
 subst en
 obtain rfl:=Option.some.inj (rtypeNo.symm.trans e2)
 have hm:ty∈(List.range (419-100)).filter fun t=>Tryz.prog.rowNamed t [101,114,114,111,114]:=List.mem_filter.2 ⟨List.mem_range.2 (by rw [← typesNo]; exact e3),e4⟩
 rw [oneError] at hm
 obtain rfl:=List.mem_singleton.1 hm
 rw [handleErr] at e5
 simpa [GlobE] using World.var?_cell errorTypeNo e5 0
end Go.Proofs.YtkaoebokbfcmhaaGreatDoor
namespace Go.Proofs.YtkaoebokbfcmhaaGreatDoor
open Go.ChangeShapes Go.WideShapes Go.ChangeAt Go.RowKit Go.Joins
namespace WholeRingsP
set_option maxRecDepth 100000 in
theorem door_met (os:Os) (args:Array Value):laidMetH Tryz.prog Rows.wholeRingsRow.laid ((World.doorLaid Tryz.prog 400 os).forCall (fun _ _=>0) ⟨#[],args,[]⟩).memory :=
 laidMetH_of_parts3 (fuel:=8) (laidMet_of_run' 8 (by kernel_rfl) (by kernel_rfl)) (by kernel_rfl) (by kernel_rfl)
set_option maxRecDepth 100000 in
theorem lifted (os:Os) (started:os.Started) (H:Type) (enc:TypeId×Value→H) :
 ReturnsInHanded {} Tryz.checked os 4 .any (fun w args=>(Rows.wholeRingsSpec.pre enc Tryz.prog Tryz.f4 [] false w args∧laidMetH Tryz.prog Rows.wholeRingsRow.laid w)∧sizedMet enc Tryz.prog Tryz.f4 (OpenSpec.ofChange Rows.wholeRingsSpec) false w args)
  (Rows.wholeRingsSpec.post enc Tryz.prog Tryz.f4 false true false false):=by
 refine returnsInHanded_of_change_and (C:=Tryz.checked) (X:=fun w _=>laidMetH Tryz.prog Rows.wholeRingsRow.laid w) (fun _ _ _ hh h=>h.of_heap hh) own started (by kernel_rfl) Tryz.func4
  (ChangeSpec.witness_shaped (enc:=enc) (C:=Tryz.checked) (os:=os) (X:=fun w _=>laidMetH Tryz.prog Rows.wholeRingsRow.laid w) false (World.doorLaid Tryz.prog 400 os) #[.agg #[.int .i64 0,.int .i64 0,.slice none 0 0],.slice none 0 0,.int .i64 0] 8 rfl (World.shaped_of_RefB (by kernel_rfl) (by kernel_rfl)) (by kernel_rfl) (by kernel_rfl) (by kernel_rfl) (door_met os _)) ?_
 intro W base args ds gs before hval0 hW _ hsz hL _
 have hval:∀ (j:Nat) t v,Tryz.f4.params[j]?=some t→args[j]?=some v→Value.okWide Tryz.prog W .any base t v:=hval0
 have hW':=hW
 obtain ⟨p,q,hA0,hV,rfl,hfz,hnd⟩:=hW
 have hA:DataW.TrodAll enc Tryz.prog W 0 (fun _=>true) true Tryz.f4.params.toList args.toList ds p:=hA0
 rw [Tryz.params4] at hA hval hsz
 obtain ⟨v0,vs0,d0,ds0,p0,q0,hargs,rfl,rfl,g0,t0⟩:=trodAll_cons hA
 obtain ⟨v1,vs1,d1,ds1,p1,q1,rfl,rfl,rfl,g1,t1⟩:=trodAll_cons t0
 obtain ⟨v2,vs2,d2,ds2,p2,q2,rfl,rfl,rfl,g2,t2⟩:=trodAll_cons t1
 obtain ⟨rfl,rfl,rfl⟩:=trodAll_nil t2
 obtain rfl:args=#[v0,v1,v2]:=by cases args; simp_all
 obtain ⟨rfl,rfl⟩:=trodVars_none hV
 have kk0:=g0
 have lt0:∀ x∈p0,x.block<W.heap.size:=by obtain ⟨m,hm⟩:=kk0; exact DataW.trod_lt m _ _ _ hm
 obtain ⟨kr0,rr0,u0,x0,rfl,h0,l0,b0,bk0,br0⟩:=open_ruleV (hval 0 24 v0 rfl rfl) g0 (fun n hn=>by
  have:=List.all_eq_true.1 hsz n (DataW.weights_mem_each (j:=0) (t:=24) rfl rfl n hn)
  simpa using this)
 have kk1:=g1
 have lt1:∀ x∈p1,x.block<W.heap.size:=by obtain ⟨m,hm⟩:=kk1; exact DataW.trod_lt m _ _ _ hm
 obtain ⟨x1,h1,l1,b1⟩:=open_intsT (hval 1 22 v1 rfl rfl) g1 (fun n hn=>by
  have:=List.all_eq_true.1 hsz n (DataW.weights_mem_each (j:=1) (t:=22) rfl rfl n hn)
  simpa using this)
 obtain ⟨k2,rfl,rfl,rfl,w2⟩:=open_int uInt (hval 2 3 v2 rfl rfl) g2
 have b2:=i64_of_wf w2
 obtain ⟨r,hg,hG⟩:=glob_of_laidH (W:=W) (by
  exact hL)
 clear hA0 hval0
 refine (wholeRings_any r _ _ _ _ _ _ _ _ hg hG h0 h1).mono fun e W' ⟨x,he,bel,hxx⟩=>?_
 subst he; subst hxx
 exact ⟨_,rfl,_,_,_,[],_,[],hW',trodAll_mk1 (shut_bool Tryz.underlying4 _),(trodAll_cons_mk (Below.trod laidOut (by kernel_rfl) (of_decide_eq_true (by kernel_rfl)) kk0 bel lt0) (trodAll_cons_mk (Below.trod laidOut (by kernel_rfl) (of_decide_eq_true (by kernel_rfl)) kk1 bel lt1) (trodAll_cons_mk (shut_int uInt w2) trodAll_mk0))),rfl,bel.frame _,fun h=>by cases h⟩
theorem and_t {a b:Bool} (h:a=true) (k:b=true):(a&&b)=true:=by rw [h,k]; rfl
theorem jf_wf:Rows.wholeRingsRow.wf (OpenSpec.ofChange Rows.wholeRingsSpec)=true:=by kernel_rfl
theorem jf_lo:laidOutB Tryz.prog=true:=by kernel_rfl
theorem jf_mr:mapsRowed Tryz.prog=true:=by kernel_rfl
theorem jf_nt:namedTie Tryz.prog Rows.wholeRingsRow.named Rows.wholeRingsSpec.vars=true:=by kernel_rfl
theorem jf_ip:(Rows.wholeRingsRow.inPlace==Tryz.prog.inPlace 4)=true:=by kernel_rfl
theorem jf_uf:(Rows.wholeRingsRow.unfollowed==Tryz.prog.unfollowed 4)=true:=by kernel_rfl
theorem jf_rc:(Rows.wholeRingsRow.recurses==Tryz.prog.recurses 4)=true:=by kernel_rfl
theorem jf_nm:(Rows.wholeRingsRow.named==Tryz.prog.varsNamed 4)=true:=by kernel_rfl
theorem jf_pk:(Rows.wholeRingsRow.plainKeys==Tryz.prog.plainKeys)=true:=by kernel_rfl
theorem jf_sh:Tryz.prog.stopsHeard=true:=by kernel_rfl
theorem jf_me:Tryz.prog.mayEnter=true:=by kernel_rfl
theorem jf_lf:(Rows.wholeRingsRow.lifted==Tryz.prog.liftsFinal)=true:=by kernel_rfl
theorem jf_mk:(Tryz.prog.make==some Rows.wholeRingsRow.make)=true:=by kernel_rfl
theorem joined:joinedFacts Tryz.prog 4 Tryz.f4 Rows.wholeRingsSpec Rows.wholeRingsRow=true:=and_t (and_t (and_t (and_t (and_t (and_t (and_t (and_t (and_t (and_t (and_t (and_t (and_t (and_t (and_t (and_t (and_t (and_t (and_t (and_t (and_t (and_t (and_t (and_t (and_t (and_t (and_t (and_t (and_t (and_t (and_t jf_wf jf_lo) jf_mr) (by kernel_rfl)) jf_nt) (by kernel_rfl)) (by kernel_rfl)) (by kernel_rfl)) (by kernel_rfl)) jf_ip) jf_uf) jf_rc) jf_nm) (by kernel_rfl)) (by kernel_rfl)) (by kernel_rfl)) (by kernel_rfl)) (by kernel_rfl)) (by kernel_rfl)) (by kernel_rfl)) (by kernel_rfl)) (by kernel_rfl)) jf_pk) (by kernel_rfl)) jf_sh) jf_me) jf_lf) jf_mk) (by kernel_rfl)) (by kernel_rfl)) (by kernel_rfl)) (by kernel_rfl)
theorem fnamed:Tryz.prog.funcNamed Rows.wholeRingsRow.func=some 4:=by kernel_rfl
theorem inst:Tryz.f4.isInstance Tryz.prog Rows.wholeRingsRow.origin Rows.wholeRingsRow.targs:=of_decide_eq_true (by kernel_rfl)
theorem wrapd:Tryz.f4.isWrapper Tryz.prog Rows.wholeRingsRow.wrapper Rows.wholeRingsRow.mainSum:=by unfold Func.isWrapper; first | (rw [if_pos (by decide +kernel)]; kernel_rfl) | (rw [if_neg (by decide +kernel)]; exact ⟨rfl,rfl⟩)
theorem over:Rows.WholeRingsSaid :=
 OpenClaim.holds_of_wide 4 Tryz.f4 rfl rfl rfl rfl rfl rfl rfl ⟨rfl,rfl,rfl,rfl,rfl⟩ rfl rfl rfl rfl rfl fnamed Tryz.func4 joined
  inst wrapd
  (fun os started H enc _=>lifted os started H enc)
theorem cw:Rows.wholeRingsRow.wfByText (OpenSpec.ofChange Rows.wholeRingsSpec)=true:=by kernel_rfl
theorem cm:Tryz.prog.mainIs=some (Rows.wholeRingsCard.stood.harness.1,Rows.wholeRingsCard.stood.harness.2.toList):=by kernel_rfl
theorem cl:Rows.wholeRingsCard.stood.looks=Tryz.prog.looks []:=by kernel_rfl
theorem cg:false=Rows.wholeRingsRow.goesBy Tryz.prog:=by kernel_rfl
theorem cs:([24,22,3].all fun u=>!Tryz.prog.wantsStandIn u)=true:=by kernel_rfl
theorem card_holds:Rows.WholeRingsCardSaid :=
 Claim7.holds_tied_plain_at .later [] [.handle,.sentinel,.sentinel,.sentinel,.sentinel,.sentinel,.sentinel,.sentinel,.sentinel,.sentinel,.sentinel,.sentinel,.sentinel] true _ _
  over (fun _ h=>by cases h) cw (fun _ h=>by cases h) wholeRings_row_tie rfl ⟨rfl,rfl⟩ cm rfl
  (fun f fn hf hfn=>by
    obtain rfl:f=4:=Option.some.inj (fnamed.symm.trans hf) |>.symm
    obtain rfl:fn=Tryz.f4:=(Option.some.inj (Tryz.func4.symm.trans hfn)).symm
    exact ⟨cl,fun j t ht=>by
     rw [Tryz.params4] at ht
     have hm:t∈[24,22,3]:=by simpa using Array.mem_of_getElem? ht
     exact (show Tryz.prog.wantsStandIn t=false by simpa using List.all_eq_true.1 cs t hm)⟩)
  cg
end WholeRingsP
#print axioms WholeRingsP.card_holds
end Go.Proofs.YtkaoebokbfcmhaaGreatDoor
