/-
  Texts that the proof leans on.
-/
import Derived.Test.YtncpnaoabkjegaaGreatDoorMLn1
import Derived.Lib.AppendZeros
import Derived.RegionTactic
namespace Go.Proofs.YtncpnaoabkjegaaGreatDoor
open Go.RowKit
set_option maxRecDepth 100000
theorem Rows.add2 {B:Nat} {w w':World} {f:Names} {i j:Nat×Nat} {r' s':Row} (h:Rows B w f) (hb:Below w.heap.size w w') (ho:r'.own B w') (hn:∀ k,r'.v.ownBlock=some k→w.heap.size≤k) (ho2:s'.own B w') (hn2:∀ k,s'.v.ownBlock=some k→w.heap.size≤k)
 (hne:r'.v.ownBlock=Option.none∨r'.v.ownBlock≠s'.v.ownBlock) (hij:i≠j):Rows B w' (upd (upd f i (some r')) j (some s')):=by
 have h1:=h.add (i:=i) hb ho hn
 have far:∀ k t,upd f i (some r') k=some t→k≠j→t.v.ownBlock=Option.none∨t.v.ownBlock≠s'.v.ownBlock:=fun k t hk hkj=>by
  by_cases e:k=i
  ·subst e
   rw [upd_same] at hk; cases hk
   exact hne
  ·rw [upd_ne _ _ e] at hk
   cases hs:t.v.ownBlock with
   | none=>exact .inl rfl
   | some m =>
    right; intro e2
    have:=hn2 m e2.symm
    have:=(h.lt hk m hs).2
    omega
 refine ⟨fun k t hk=>?_,fun k l s t hk hl hkl=>?_⟩
 ·by_cases e:k=j
  ·subst e; rw [upd_same] at hk; cases hk; exact ho2
  ·rw [upd_ne _ _ e] at hk
   exact h1.1 k t hk
 ·by_cases e:k=j
  ·subst e
   rw [upd_same] at hk; cases hk
   rw [upd_ne _ _ (Ne.symm hkl)] at hl
   rcases far l t hl (Ne.symm hkl) with e2 | e2
   ·cases hr:s'.v.ownBlock with
    | none=>exact .inl rfl
    | some m=>right; rw [e2]; simp
   ·exact .inr (Ne.symm e2)
  ·rw [upd_ne _ _ e] at hk
   by_cases e':l=j
   ·subst e'; rw [upd_same] at hl; cases hl
    exact far k s hk e
   ·rw [upd_ne _ _ e'] at hl
    exact h1.2 k l s t hk hl hkl
theorem Rows.addE {B:Nat} {w w':World} {f:Names} (i:Nat×Nat) {r':Row} (h:Rows B w f) (hb:Below w.heap.size w w') (ho:r'.own B w') (hn:∀ k,r'.v.ownBlock=some k→w.heap.size≤k) :
 ∃ f',Rows B w' f'∧f' i=some r'∧∀ j,j≠i→f' j=f j :=
 ⟨_,h.add (i:=i) hb ho hn,upd_same _ _ _,fun _ e=>upd_ne _ _ e⟩
theorem Rows.add2E {B:Nat} {w w':World} {f:Names} (i j:Nat×Nat) (hij:i≠j) {r' s':Row} (h:Rows B w f) (hb:Below w.heap.size w w') (ho:r'.own B w') (hn:∀ k,r'.v.ownBlock=some k→w.heap.size≤k) (ho2:s'.own B w') (hn2:∀ k,s'.v.ownBlock=some k→w.heap.size≤k)
 (hne:r'.v.ownBlock=Option.none∨r'.v.ownBlock≠s'.v.ownBlock):∃ f',Rows B w' f'∧f' i=some r'∧f' j=some s'∧∀ k,k≠i→k≠j→f' k=f k :=
 ⟨_,h.add2 hb ho hn ho2 hn2 hne hij,by rw [upd_ne _ _ hij,upd_same],upd_same _ _ _,fun k e1 e2=>by rw [upd_ne _ _ e2,upd_ne _ _ e1]⟩
theorem Rows.lose {B:Nat} {w w':World} {f:Names} {i:Nat×Nat} {r:Row} (h:Rows B w f) (hi:f i=some r) (hg:w.grownBy w' r.v.ownBlock):∃ f',Rows B w' f'∧∀ j,j≠i→f' j=f j :=
 ⟨upd f i Option.none,⟨fun j s hj=>by
   by_cases e:j=i
   ·subst e; rw [upd_same] at hj; cases hj
   ·rw [upd_ne _ _ e] at hj
    exact World.ownsRow.kept (h.1 j s hj) hg (h.2 j i s r hj hi e),(h.drop i).2⟩,fun _ e=>upd_ne _ _ e⟩
abbrev box4 (T:TypeId) (g:Nat) (cs:List Value):Row:=⟨T,4,.slice (some ⟨g,0,none⟩) 1 1,1,cs⟩
theorem Rows.box4 {B:Nat} {w:World} {f:Names} (i:Nat×Nat) (h:Rows B w f) (hB:B≤w.heap.size) (T:TypeId) (a b c d:Value) :
 ∃ f',Rows B (w.alloc (.cells #[a,b,c,d] T)) f'∧f' i=some (Go.Proofs.YtncpnaoabkjegaaGreatDoor.box4 T w.heap.size [a,b,c,d])∧∀ j,j≠i→f' j=f j :=
 h.addE i (r':=Go.Proofs.YtncpnaoabkjegaaGreatDoor.box4 T w.heap.size [a,b,c,d]) (belowAlloc w _) (World.ownsRow_lit (base:=B) (e:=T) (size:=4) w #[a,b,c,d] 1 hB (by decide) rfl) (fun k hk=>by cases hk; exact Nat.le_refl _)
structure Cells4 (w:World) (g:Nat) (a b c d:Value):Prop where
 c0:w.cell? ⟨g,0,none⟩=some a
 c1:w.cell? ⟨g,1,none⟩=some b
 c2:w.cell? ⟨g,2,none⟩=some c
 c3:w.cell? ⟨g,3,none⟩=some d
theorem Cells4.below {w w':World} {g:Nat} {a b c d:Value} (h:Cells4 w g a b c d) (hb:Below w.heap.size w w'):Cells4 w' g a b c d:=by
 have k:∀ {i x},w.cell? ⟨g,i,none⟩=some x→w'.cell? ⟨g,i,none⟩=some x:=fun {i x} hc=>by
  rw [hb.cell (World.block_lt_of_cell? _ _ hc)]; exact hc
 exact ⟨k h.c0,k h.c1,k h.c2,k h.c3⟩
theorem Cells4.belowB {B:Nat} {w w':World} {g:Nat} {a b c d:Value} (h:Cells4 w g a b c d) (hb:Below B w w') (hg:g<B):Cells4 w' g a b c d:=by
 have k:∀ {i x},w.cell? ⟨g,i,none⟩=some x→w'.cell? ⟨g,i,none⟩=some x:=fun {i x} hc=>by
  rw [hb.cell hg]; exact hc
 exact ⟨k h.c0,k h.c1,k h.c2,k h.c3⟩
theorem Cells4.alloc (w:World) (T:TypeId) (a b c d:Value):Cells4 (w.alloc (.cells #[a,b,c,d] T)) w.heap.size a b c d:=by
 refine ⟨?_,?_,?_,?_⟩<;>simp [go_sem]
theorem Rows.cells4 {B:Nat} {w:World} {f:Names} {i:Nat×Nat} {T:TypeId} {g:Nat} {a b c d:Value} (h:Rows B w f) (hi:f i=some (Go.Proofs.YtncpnaoabkjegaaGreatDoor.box4 T g [a,b,c,d])):Cells4 w g a b c d :=
 ⟨h.cell hi (g:=g) (cap:=1) rfl 0 (show 0<1*4 by decide),h.cell hi (g:=g) (cap:=1) rfl 1 (show 1<1*4 by decide),h.cell hi (g:=g) (cap:=1) rfl 2 (show 2<1*4 by decide),h.cell hi (g:=g) (cap:=1) rfl 3 (show 3<1*4 by decide)⟩
theorem Rows.frz4 {B:Nat} {w:World} {f:Names} {i:Nat×Nat} {T:TypeId} {g:Nat} {cs:List Value} (h:Rows B w f) (hi:f i=some (Go.Proofs.YtncpnaoabkjegaaGreatDoor.box4 T g cs)) (k:Nat):w.frozen? ⟨g,k,none⟩=false :=
 h.frozen hi (g:=g) (cap:=1) rfl k
theorem Rows.low4 {B:Nat} {w:World} {f:Names} {i:Nat×Nat} {T:TypeId} {g:Nat} {cs:List Value} (h:Rows B w f) (hi:f i=some (Go.Proofs.YtncpnaoabkjegaaGreatDoor.box4 T g cs)):B≤g∧g<w.heap.size :=
 h.lt hi g rfl
theorem Rows.st4 {B:Nat} {w:World} {f:Names} {i:Nat×Nat} {T:TypeId} {g:Nat} {cs:List Value} (h:Rows B w f) (hi:f i=some (Go.Proofs.YtncpnaoabkjegaaGreatDoor.box4 T g cs)) (k:Nat) (y:Value) :
 ∃ f',Rows B (w.setCell ⟨g,k,none⟩ y) f'∧f' i=some (Go.Proofs.YtncpnaoabkjegaaGreatDoor.box4 T g (cs.set k y))∧∀ j,j≠i→f' j=f j :=
 ⟨_,h.set hi (g:=g) (cap:=1) rfl k y,upd_same _ _ _,fun _ e=>upd_ne _ _ e⟩
theorem Rows.all4 {B:Nat} {w:World} {f:Names} {i:Nat×Nat} {T:TypeId} {g:Nat} {x0 x1 x2 x3:Value} (h:Rows B w f) (hi:f i=some (Go.Proofs.YtncpnaoabkjegaaGreatDoor.box4 T g [x0,x1,x2,x3])) (a b c d:Value) :
 ∃ f',Rows B ((((w.setCell ⟨g,0,none⟩ a).setCell ⟨g,1,none⟩ b).setCell ⟨g,2,none⟩ c).setCell ⟨g,3,none⟩ d) f'∧f' i=some (Go.Proofs.YtncpnaoabkjegaaGreatDoor.box4 T g [a,b,c,d])∧∀ j,j≠i→f' j=f j:=by
 obtain ⟨f1,h1,i1,o1⟩:=h.st4 hi 0 a
 obtain ⟨f2,h2,i2,o2⟩:=h1.st4 i1 1 b
 obtain ⟨f3,h3,i3,o3⟩:=h2.st4 i2 2 c
 obtain ⟨f4,h4,i4,o4⟩:=h3.st4 i3 3 d
 exact ⟨f4,h4,i4,fun j e=>by rw [o4 j e,o3 j e,o2 j e,o1 j e]⟩
theorem Below.all4 {B g:Nat} {w0 w:World} (h:Below B w0 w) (hb:B≤g) (a b c d:Value):Below B w0 ((((w.setCell ⟨g,0,none⟩ a).setCell ⟨g,1,none⟩ b).setCell ⟨g,2,none⟩ c).setCell ⟨g,3,none⟩ d) :=
 (((h.setCell (show B≤(⟨g,0,Option.none⟩:Addr).block from hb) _).setCell (show B≤(⟨g,1,Option.none⟩:Addr).block from hb) _).setCell (show B≤(⟨g,2,Option.none⟩:Addr).block from hb) _).setCell (show B≤(⟨g,3,Option.none⟩:Addr).block from hb) _
theorem Rows.merge {B:Nat} {w w':World} {f g:Names} (p:Nat×Nat→Bool) (h:Rows B w f) (hb:Below w.heap.size w w') (hg:Rows w.heap.size w' g) (hB:B≤w.heap.size):∃ f',Rows B w' f'∧(∀ i,p i=true→f' i=g i)∧∀ i,p i=false→f' i=f i:=by
 have hf:=h.below hb
 refine ⟨fun i=>if p i=true then g i else f i,⟨fun i r hi=>?_,fun i j r s hi hj hne=>?_⟩,fun i hi=>by simp [hi],fun i hi=>by simp [hi]⟩
 ·dsimp only at hi
  split at hi
  ·have ho:=hg.1 i r hi
   refine ⟨ho.1,?_⟩
   rcases ho.2 with h2 | ⟨b,cap,cur,e,hB',rest⟩
   ·exact .inl h2
   ·exact .inr ⟨b,cap,cur,e,Nat.le_trans hB hB',rest⟩
  ·exact hf.1 i r hi
 ·dsimp only at hi hj
  have far:∀ (k l:Nat×Nat) (r s:Row),f k=some r→g l=some s→r.v.ownBlock=Option.none∨r.v.ownBlock≠s.v.ownBlock:=fun k l r s hk hl=>by
   cases hr:r.v.ownBlock with
   | none=>exact .inl rfl
   | some m =>
    right
    intro e
    have h1:=(h.lt hk m hr).2
    have h2:=(hg.lt hl m e.symm).1
    omega
  split at hi
  ·split at hj
   ·exact hg.2 i j r s hi hj hne
   ·rcases far j i s r hj hi with e | e
    ·cases hr:r.v.ownBlock with
     | none=>exact .inl rfl
     | some m=>right; rw [e]; simp
    ·exact .inr (Ne.symm e)
  ·split at hj
   ·exact far i j r s hi hj
   ·exact hf.2 i j r s hi hj hne
theorem ErrIs.all4 {r:Nat→Addr} {w:World} {t:PErr} {v:Value} {g:Nat} {n:Int} {b c d:Value} (h:ErrIs r w t v) (hc:Cells4 w g (.int .i64 n) b c d) (x y z:Value) :
 ErrIs r ((((w.setCell ⟨g,0,none⟩ (.int .i64 0)).setCell ⟨g,1,none⟩ x).setCell ⟨g,2,none⟩ y).setCell ⟨g,3,none⟩ z) t v:=by
 have k1:(w.setCell ⟨g,0,none⟩ (.int .i64 0)).cell? ⟨g,0,none⟩=some (.int .i64 0):=World.cell?_setCell_same _ _ _ hc.c0
 have k2:((w.setCell ⟨g,0,none⟩ (.int .i64 0)).setCell ⟨g,1,none⟩ x).cell? ⟨g,0,none⟩=some (.int .i64 0):=by
  rw [World.cell?_setCell_other _ _ _ _ (by intro e; cases e)]; exact k1
 have k3:(((w.setCell ⟨g,0,none⟩ (.int .i64 0)).setCell ⟨g,1,none⟩ x).setCell ⟨g,2,none⟩ y).cell? ⟨g,0,none⟩=some (.int .i64 0):=by
  rw [World.cell?_setCell_other _ _ _ _ (by intro e; cases e)]; exact k2
 exact (((h.set (b:=g) (i:=0) (fun s e=>by rw [hc.c0] at e; cases e) _).set (b:=g) (i:=1) (fun s e=>by rw [k1] at e; cases e) _).set (b:=g) (i:=2) (fun s e=>by rw [k2] at e; cases e) _).set (b:=g) (i:=3) (fun s e=>by rw [k3] at e; cases e) _
end Go.Proofs.YtncpnaoabkjegaaGreatDoor
namespace Go.Proofs.YtncpnaoabkjegaaGreatDoor
def fillL (g:Nat→List Int→Bool×List Int):List Nat→List Int→Bool×List Int
 | [],tab=>(true,tab)
 | s::l,tab=>if (g s tab).1=true then fillL g l (g s tab).2 else g s tab
def fillF (K R W:Nat) (T:List Int):Nat→Nat→Nat→Nat→List Int→Bool×List Int
 | 0,_,image,middle,tab=>if 0≤tab.getD image 0∧tab.getD image 0≠(middle:Int) then (false,tab) else (true,tab.set image middle)
 | f+1,front,image,middle,tab=>fillL (fun s t=>fillF K R W T f ((front*K+s)%(T.length/K)) (if 2*R≤W-(f+1) then image*K+(T.getD (front*K+s) 0).toNat else image) (if W-(f+1)=W/2 then s else middle) t) (List.range K) tab
theorem fillL_len {g:Nat→List Int→Bool×List Int} (hg:∀ s t,(g s t).2.length=t.length) (l:List Nat) (tab:List Int):(fillL g l tab).2.length=tab.length:=by
 induction l generalizing tab with
 | nil=>rfl
 | cons s l ih =>
  unfold fillL
  split
  ·rw [ih,hg]
  ·exact hg s tab
theorem fillF_len (K R W:Nat) (T:List Int) (f front image middle:Nat) (tab:List Int):(fillF K R W T f front image middle tab).2.length=tab.length:=by
 induction f generalizing front image middle tab with
 | zero=>unfold fillF; split<;>simp
 | succ f ih=>unfold fillF; exact fillL_len (fun s t=>ih _ _ _ _) _ _
theorem fillL_cons (g:Nat→List Int→Bool×List Int) (s:Nat) (l:List Nat) (tab:List Int):fillL g (s::l) tab=if (g s tab).1=true then fillL g l (g s tab).2 else g s tab:=rfl
theorem fillL_append (g:Nat→List Int→Bool×List Int) (l m:List Nat) (tab:List Int):fillL g (l++m) tab=if (fillL g l tab).1=true then fillL g m (fillL g l tab).2 else fillL g l tab:=by
 induction l generalizing tab with
 | nil=>simp [fillL]
 | cons s l ih =>
  rw [List.cons_append,fillL_cons,fillL_cons]
  by_cases h:(g s tab).1=true
  ·rw [if_pos h,if_pos h]; exact ih _
  ·rw [if_neg h,if_neg h,if_neg h]
theorem fillL_succ {g:Nat→List Int→Bool×List Int} {i:Nat} {tab t:List Int} (h:fillL g (List.range i) tab=(true,t)):fillL g (List.range (i+1)) tab=g i t:=by
 rw [List.range_succ,fillL_append,h,if_pos rfl,fillL_cons]
 by_cases hh:(g i t).1=true
 ·rw [if_pos hh]; exact Prod.ext hh.symm rfl
 ·rw [if_neg hh]
theorem fillL_stop {g:Nat→List Int→Bool×List Int} {i n:Nat} {tab t:List Int} (hi:i<n) (h:fillL g (List.range i) tab=(true,t)) (hf:(g i t).1=false):fillL g (List.range n) tab=g i t:=by
 obtain ⟨m,rfl⟩:∃ m,n=(i+1)+m:=⟨n-(i+1),by omega⟩
 rw [List.range_add,fillL_append,fillL_succ h,if_neg (by rw [hf]; decide)]
def tryF (K R:Nat) (T:List Int) (d:Nat):Bool×List Int:=fillF K R (2*(R+d)+1) T (2*(R+d)+1) 0 0 0 (List.replicate (pw K (2*d+1)) (-1))
def findF (K R:Nat) (T:List Int):Nat→Nat→Option (Nat×List Int)
 | 0,_=>none
 | m+1,d=>if (tryF K R T d).1=true then some (d,(tryF K R T d).2) else findF K R T m (d+1)
def findP (K R:Nat) (T:List Int):Option (Nat×List Int):=findF K R T 4 0
theorem numW_cons (K:Nat) (s:Int) (u:List Int):numW K (s::u)=s.toNat*pw K u.length+numW K u:=by
 have:=numW_append K [s] u
 simpa [numW] using this
theorem digs_numW {K:Nat} (hK:1≤K) (w:List Int) (h:Syms K w):digs K w.length (numW K w)=w:=by
 induction hn:w.length generalizing w with
 | zero=>obtain rfl:=List.eq_nil_of_length_eq_zero hn; rfl
 | succ n ih =>
  have hne:w≠[]:=by intro e; subst e; simp at hn
  obtain ⟨b,x,rfl⟩:∃ b x,w=b++[x]:=⟨w.dropLast,w.getLast hne,(List.dropLast_concat_getLast hne).symm⟩
  have hb:b.length=n:=by simpa using hn
  have hx:=h x (by simp)
  have hxn:x.toNat<K:=by omega
  have:=ih b (fun y hy=>h y (by simp [hy])) hb
  rw [digs,numW_snoc]
  rw [show (numW K b*K+x.toNat)/K=numW K b by rw [Nat.mul_comm,Nat.mul_add_div (by omega),Nat.div_eq_of_lt hxn,Nat.add_zero],this,
   show (numW K b*K+x.toNat)%K=x.toNat by rw [Nat.mul_comm,Nat.mul_add_mod,Nat.mod_eq_of_lt hxn]]
  congr 2
  omega
def mirT (K n:Nat) (T:List Int):List Int:=(List.range T.length).map fun i=>T.getD (numW K (digs K n i).reverse) 0
theorem mirT_length (K n:Nat) (T:List Int):(mirT K n T).length=T.length:=by simp [mirT]
theorem mirT_syms {K:Nat} (hK:1≤K) (n:Nat) {T:List Int} (h:Syms K T):Syms K (mirT K n T):=by
 intro y hy
 obtain ⟨i,_,rfl⟩:=List.mem_map.1 hy
 exact h.getD (by omega) _
theorem mirT_at {K n:Nat} (hK:1≤K) {T:List Int} (hT:T.length=pw K n) (w:List Int) (hw:Syms K w) (hl:w.length=n):(mirT K n T).getD (numW K w) 0=T.getD (numW K w.reverse) 0:=by
 have hlt:=numW_lt w hw
 rw [hl,← hT] at hlt
 have:(mirT K n T).getD (numW K w) 0=T.getD (numW K (digs K n (numW K w)).reverse) 0:=by simp [mirT,List.getD,hlt]
 rw [this,← hl,digs_numW hK w hw]
theorem mirT_ok {K R:Nat} {T:List Int} (h:RuleOk K R T):RuleOk K R (mirT K (2*R+1) T) :=
 ⟨h.k1,h.k4,h.r3,by rw [mirT_length]; exact h.len,mirT_syms h.k1 _ h.syms⟩
theorem bits2:∀ a b:Fin 2,((0 ||| 2 ^ a.val) ||| 2 ^ b.val==2 ^ 2-1)=decide (a≠b):=by decide
theorem bits3:∀ a b c:Fin 3,(((0 ||| 2 ^ a.val) ||| 2 ^ b.val) ||| 2 ^ c.val==2 ^ 3-1)=decide (a≠b∧a≠c∧b≠c):=by decide
theorem bits4:∀ a b c d:Fin 4,((((0 ||| 2 ^ a.val) ||| 2 ^ b.val) ||| 2 ^ c.val) ||| 2 ^ d.val==2 ^ 4-1)=decide (a≠b∧a≠c∧a≠d∧b≠c∧b≠d∧c≠d):=by decide +kernel
theorem fullP_iff {K:Nat} (h1:1≤K) (h4:K≤4) {T:List Int} (hT:Syms K T) (W i:Nat) :
 fullP K T W i=true↔∀ s t,s<t→t<K→T.getD (i+s*W) 0≠T.getD (i+t*W) 0:=by
 have hx:∀ s,∃ a:Fin K,T.getD (i+s*W) 0=(a.val:Int):=fun s=>by
  have:=hT.getD (by omega) (i+s*W)
  exact ⟨⟨(T.getD (i+s*W) 0).toNat,by omega⟩,by simp only []; omega⟩
 have hk:K=1∨K=2∨K=3∨K=4:=by omega
 unfold fullP
 rcases hk with rfl | rfl | rfl | rfl
 ·obtain ⟨a,ha⟩:=hx 0
  simp only [seenP,ha,Int.toNat_natCast]
  have:a.val=0:=by omega
  rw [this]
  exact ⟨fun _ s t h h'=>by omega,fun _=>rfl⟩
 ·obtain ⟨a,ha⟩:=hx 0
  obtain ⟨b,hb⟩:=hx 1
  simp only [seenP,ha,hb,Int.toNat_natCast,bits2,decide_eq_true_iff]
  constructor
  ·intro h s t hst ht
   obtain rfl:s=0:=by omega
   obtain rfl:t=1:=by omega
   rw [ha,hb]
   intro e; exact h (Fin.ext (by omega))
  ·intro h e
   have:=h 0 1 (by omega) (by omega)
   rw [ha,hb,e] at this; exact this rfl
 ·obtain ⟨a,ha⟩:=hx 0
  obtain ⟨b,hb⟩:=hx 1
  obtain ⟨c,hc⟩:=hx 2
  simp only [seenP,ha,hb,hc,Int.toNat_natCast,bits3,decide_eq_true_iff]
  constructor
  ·rintro ⟨n1,n2,n3⟩ s t hst ht
   have:(s=0∧t=1)∨(s=0∧t=2)∨(s=1∧t=2):=by omega
   rcases this with ⟨rfl,rfl⟩ | ⟨rfl,rfl⟩ | ⟨rfl,rfl⟩
   ·rw [ha,hb]; intro e; exact n1 (Fin.ext (by omega))
   ·rw [ha,hc]; intro e; exact n2 (Fin.ext (by omega))
   ·rw [hb,hc]; intro e; exact n3 (Fin.ext (by omega))
  ·intro h
   refine ⟨fun e=>?_,fun e=>?_,fun e=>?_⟩
   ·have:=h 0 1 (by omega) (by omega); rw [ha,hb,e] at this; exact this rfl
   ·have:=h 0 2 (by omega) (by omega); rw [ha,hc,e] at this; exact this rfl
   ·have:=h 1 2 (by omega) (by omega); rw [hb,hc,e] at this; exact this rfl
 ·obtain ⟨a,ha⟩:=hx 0
  obtain ⟨b,hb⟩:=hx 1
  obtain ⟨c,hc⟩:=hx 2
  obtain ⟨d,hd⟩:=hx 3
  simp only [seenP,ha,hb,hc,hd,Int.toNat_natCast,bits4,decide_eq_true_iff]
  constructor
  ·rintro ⟨n1,n2,n3,n4,n5,n6⟩ s t hst ht
   have:(s=0∧t=1)∨(s=0∧t=2)∨(s=0∧t=3)∨(s=1∧t=2)∨(s=1∧t=3)∨(s=2∧t=3):=by omega
   rcases this with ⟨rfl,rfl⟩ | ⟨rfl,rfl⟩ | ⟨rfl,rfl⟩ | ⟨rfl,rfl⟩ | ⟨rfl,rfl⟩ | ⟨rfl,rfl⟩
   ·rw [ha,hb]; intro e; exact n1 (Fin.ext (by omega))
   ·rw [ha,hc]; intro e; exact n2 (Fin.ext (by omega))
   ·rw [ha,hd]; intro e; exact n3 (Fin.ext (by omega))
   ·rw [hb,hc]; intro e; exact n4 (Fin.ext (by omega))
   ·rw [hb,hd]; intro e; exact n5 (Fin.ext (by omega))
   ·rw [hc,hd]; intro e; exact n6 (Fin.ext (by omega))
  ·intro h
   refine ⟨fun e=>?_,fun e=>?_,fun e=>?_,fun e=>?_,fun e=>?_,fun e=>?_⟩
   ·have:=h 0 1 (by omega) (by omega); rw [ha,hb,e] at this; exact this rfl
   ·have:=h 0 2 (by omega) (by omega); rw [ha,hc,e] at this; exact this rfl
   ·have:=h 0 3 (by omega) (by omega); rw [ha,hd,e] at this; exact this rfl
   ·have:=h 1 2 (by omega) (by omega); rw [hb,hc,e] at this; exact this rfl
   ·have:=h 1 3 (by omega) (by omega); rw [hb,hd,e] at this; exact this rfl
   ·have:=h 2 3 (by omega) (by omega); rw [hc,hd,e] at this; exact this rfl
theorem unlikeP_iff {K:Nat} {T:List Int} {W:Nat}:unlikeP K T W=true↔∀ i,i<T.length→i/W%K=0→fullP K T W i=true :=
 ⟨fun h i=>unlikeP_full h i,unlikeP_true⟩
theorem mul_add_lt {K q s m:Nat} (hs:s<K) (hq:q<m):q*K+s<m*K:=by
 have:=Nat.mul_le_mul_right K (show q+1≤m from hq)
 rw [Nat.succ_mul] at this
 omega
theorem div_mk {K q s:Nat} (hs:s<K):(q*K+s)/K=q:=by
 rw [Nat.mul_comm,Nat.mul_add_div (by omega),Nat.div_eq_of_lt hs,Nat.add_zero]
theorem mod_mk {K q s:Nat} (hs:s<K):(q*K+s)%K=s:=by
 rw [Nat.mul_comm,Nat.mul_add_mod,Nat.mod_eq_of_lt hs]
theorem num_shift {K:Nat} {u:List Int} {s:Int} (h:Syms K (u++[s])):numW K ((u++[s]).drop 1)=numW K (u++[s])%pw K u.length:=by
 have hl:((u++[s]).drop 1).length=u.length:=by simp
 have:=numW_mod (K:=K) (u:=(u++[s]).take 1) (v:=(u++[s]).drop 1) (fun y hy=>h y (List.mem_of_mem_drop hy))
 rw [List.take_append_drop,hl] at this
 exact this.symm
theorem mod_front {K D:Nat} {x s:Nat} (hs:s<K):(x%D)*K+s=(x*K+s)%(D*K):=by
 have h1:=Nat.mod_add_div x D
 have h2:x*K+s=((x%D)*K+s)+(D*K)*(x/D):=by
  conv=>lhs; rw [← h1]
  rw [Nat.add_mul,Nat.mul_right_comm]; omega
 rw [h2,Nat.add_mul_mod_self_left]
 by_cases hD:D=0
 ·subst hD; simp
 ·refine (Nat.mod_eq_of_lt ?_).symm
  have h3:=Nat.mod_lt x (show 0<D by omega)
  have h4:(x%D+1)*K≤D*K:=Nat.mul_le_mul_right _ h3
  rw [Nat.add_mul] at h4; omega
def FillOk (K R:Nat) (T:List Int) (n front image:Nat):Prop:=front<T.length/K∧image<pw K (n-2*R)
theorem FillOk.zero {K R:Nat} {T:List Int} (hr:RuleOk K R T):FillOk K R T 0 0 0 :=
 ⟨by rw [hr.len,pw_succ,Nat.mul_div_cancel _ (by have:=hr.k1; omega)]; exact pw_pos _ hr.k1,by rw [Nat.zero_sub]; exact pw_pos _ hr.k1⟩
theorem FillOk.window {K R:Nat} {T:List Int} {n front image s:Nat} (hr:RuleOk K R T) (h:FillOk K R T n front image) (hs:s<K):front*K+s<T.length:=by
 have hD:T.length=T.length/K*K:=by
  rw [hr.len,pw_succ,Nat.mul_div_cancel _ (by have:=hr.k1; omega)]
 have h1:(front+1)*K≤T.length/K*K:=Nat.mul_le_mul_right _ h.1
 rw [Nat.add_mul] at h1
 omega
theorem FillOk.step {K R:Nat} {T:List Int} {n front image s:Nat} (hr:RuleOk K R T) (h:FillOk K R T n front image) (hs:s<K) :
 FillOk K R T (n+1) ((front*K+s)%(T.length/K)) (if 2*R≤n then image*K+(T.getD (front*K+s) 0).toNat else image):=by
 refine ⟨Nat.mod_lt _ (by have:=h.1; omega),?_⟩
 split
 ·rename_i hn
  have hw:=h.window hr hs
  have e:T.getD (front*K+s) 0=T[front*K+s]:=by simp [List.getD,hw]
  have h1:=hr.syms _ (List.getElem_mem hw)
  rw [e,show n+1-2*R=(n-2*R)+1 by omega,pw_succ]
  have h2:(image+1)*K≤pw K (n-2*R)*K:=Nat.mul_le_mul_right _ h.2
  rw [Nat.add_mul] at h2
  omega
 ·rename_i hn
  have h2:=h.2
  rw [show n-2*R=0 by omega] at h2
  rw [show n+1-2*R=0 by omega]
  exact h2
theorem syms_cons {K:Nat} {s:Int} {u:List Int} (h0:0≤s) (h1:s<K) (hu:Syms K u):Syms K (s::u):=by
 intro y hy
 rcases List.mem_cons.1 hy with rfl | hy
 ·exact ⟨h0,h1⟩
 ·exact hu y hy
theorem syms_snoc {K:Nat} {s:Int} {u:List Int} (h0:0≤s) (h1:s<K) (hu:Syms K u):Syms K (u++[s]):=by
 intro y hy
 rcases List.mem_append.1 hy with hy | hy
 ·exact hu y hy
 ·rw [List.mem_singleton] at hy; subst hy; exact ⟨h0,h1⟩
theorem syms_rev {K:Nat} {u:List Int} (hu:Syms K u):Syms K u.reverse:=fun y hy=>hu y (List.mem_reverse.1 hy)
def LeftW (K m:Nat) (T:List Int):Prop:=∀ u,Syms K u→u.length=m→∀ s t:Int,0≤s→s<K→0≤t→t<K→s≠t→T.getD (numW K (s::u)) 0≠T.getD (numW K (t::u)) 0
def RightW (K m:Nat) (T:List Int):Prop:=∀ u,Syms K u→u.length=m→∀ s t:Int,0≤s→s<K→0≤t→t<K→s≠t→T.getD (numW K (u++[s])) 0≠T.getD (numW K (u++[t])) 0
theorem unlike_leftW {K R:Nat} {T:List Int} (h:RuleOk K R T):unlikeP K T (T.length/K)=true↔LeftW K (2*R) T:=by
 have h1:=h.k1
 obtain ⟨hW,hl⟩:=h.half
 have hp:=pw_pos (K:=K) (2*R) h1
 rw [hW,unlikeP_iff]
 constructor
 ·intro hu u hsy hul s t hs0 hs1 ht0 ht1 hne
  have hlt:=numW_lt u hsy
  rw [hul] at hlt
  have hf:=hu (numW K u) (by rw [hl]; have:=Nat.mul_le_mul_left (pw K (2*R)) h1; omega) (by rw [Nat.div_eq_of_lt hlt,Nat.zero_mod])
  have hf:=(fullP_iff h1 h.k4 h.syms (pw K (2*R)) _).1 hf
  rw [numW_cons,numW_cons,hul,Nat.add_comm (s.toNat*_),Nat.add_comm (t.toNat*_)]
  rcases Nat.lt_or_ge s.toNat t.toNat with hst | hst
  ·exact hf _ _ hst (by omega)
  ·exact (hf t.toNat s.toNat (by omega) (by omega)).symm
 ·intro hw i hi hm
  have hiW:i<pw K (2*R):=by
   have hdl:i/pw K (2*R)<K:=by rw [Nat.div_lt_iff_lt_mul (by omega),Nat.mul_comm,← hl]; exact hi
   rw [Nat.mod_eq_of_lt hdl] at hm
   have:=Nat.div_add_mod i (pw K (2*R))
   have:=Nat.mod_lt i (show pw K (2*R)>0 by omega)
   rw [hm] at *
   omega
  refine (fullP_iff h1 h.k4 h.syms (pw K (2*R)) i).2 fun s t hst ht=>?_
  have:=hw (digs K (2*R) i) (digs_syms h1 _ _) (digs_length ..) s t (by omega) (by omega) (by omega) (by omega) (by omega)
  rwa [numW_cons,numW_cons,digs_length,numW_digs h1 _ _ hiW,Int.toNat_natCast,Int.toNat_natCast,Nat.add_comm (s*_),Nat.add_comm (t*_)] at this
theorem unlike_rightW {K R:Nat} {T:List Int} (h:RuleOk K R T):unlikeP K T 1=true↔RightW K (2*R) T:=by
 have h1:=h.k1
 obtain ⟨hW,hl⟩:=h.half
 rw [unlikeP_iff]
 constructor
 ·intro hu u hsy hul s t hs0 hs1 ht0 ht1 hne
  have hlt:=numW_lt u hsy
  rw [hul] at hlt
  have hf:=hu (numW K u*K) (by rw [hl]; exact Nat.mul_lt_mul_of_pos_right hlt (by omega)) (by rw [Nat.div_one,Nat.mul_mod_left])
  have hf:=(fullP_iff h1 h.k4 h.syms 1 _).1 hf
  rw [numW_snoc,numW_snoc]
  rcases Nat.lt_or_ge s.toNat t.toNat with hst | hst
  ·have:=hf _ _ hst (by omega); rwa [Nat.mul_one,Nat.mul_one] at this
  ·have:=(hf t.toNat s.toNat (by omega) (by omega)).symm; rwa [Nat.mul_one,Nat.mul_one] at this
 ·intro hw i hi hm
  rw [Nat.div_one] at hm
  obtain ⟨q,rfl⟩:∃ q,i=q*K:=⟨i/K,by have:=Nat.div_add_mod' i K; omega⟩
  have hq:q<pw K (2*R):=Nat.lt_of_mul_lt_mul_right (a:=K) (by rw [← hl]; exact hi)
  refine (fullP_iff h1 h.k4 h.syms 1 _).2 fun s t hst ht=>?_
  have:=hw (digs K (2*R) q) (digs_syms h1 _ _) (digs_length ..) s t (by omega) (by omega) (by omega) (by omega) (by omega)
  rwa [numW_snoc,numW_snoc,numW_digs h1 _ _ hq,Int.toNat_natCast,Int.toNat_natCast,← Nat.mul_one s,← Nat.mul_one t] at this
theorem mir_leftW {K R:Nat} {T:List Int} (h:RuleOk K R T):LeftW K (2*R) (mirT K (2*R+1) T)↔RightW K (2*R) T:=by
 have e:∀ (u:List Int) (s:Int),Syms K u→u.length=2*R→0≤s→s<K→(mirT K (2*R+1) T).getD (numW K (s::u)) 0=T.getD (numW K (u.reverse++[s])) 0:=fun u s hu hl h0 h1=>by
  have:=mirT_at h.k1 h.len (s::u) (syms_cons h0 h1 hu) (by simp [hl])
  rwa [List.reverse_cons] at this
 constructor
 ·intro hw u hu hl s t a b c d hne
  have:=hw u.reverse (syms_rev hu) (by simpa using hl) s t a b c d hne
  rwa [e _ _ (syms_rev hu) (by simpa using hl) a b,e _ _ (syms_rev hu) (by simpa using hl) c d,List.reverse_reverse] at this
 ·intro hw u hu hl s t a b c d hne
  rw [e _ _ hu hl a b,e _ _ hu hl c d]
  exact hw u.reverse (syms_rev hu) (by simpa using hl) s t a b c d hne
theorem mir_rightW {K R:Nat} {T:List Int} (h:RuleOk K R T):RightW K (2*R) (mirT K (2*R+1) T)↔LeftW K (2*R) T:=by
 have e:∀ (u:List Int) (s:Int),Syms K u→u.length=2*R→0≤s→s<K→(mirT K (2*R+1) T).getD (numW K (u++[s])) 0=T.getD (numW K (s::u.reverse)) 0:=fun u s hu hl h0 h1=>by
  have:=mirT_at h.k1 h.len (u++[s]) (syms_snoc h0 h1 hu) (by simp [hl])
  rwa [List.reverse_append,List.reverse_singleton,List.singleton_append] at this
 constructor
 ·intro hw u hu hl s t a b c d hne
  have:=hw u.reverse (syms_rev hu) (by simpa using hl) s t a b c d hne
  rwa [e _ _ (syms_rev hu) (by simpa using hl) a b,e _ _ (syms_rev hu) (by simpa using hl) c d,List.reverse_reverse] at this
 ·intro hw u hu hl s t a b c d hne
  rw [e _ _ hu hl a b,e _ _ hu hl c d]
  exact hw u.reverse (syms_rev hu) (by simpa using hl) s t a b c d hne
theorem mir_sides {K R:Nat} {T:List Int} (h:RuleOk K R T) :
 unlikeP K (mirT K (2*R+1) T) ((mirT K (2*R+1) T).length/K)=unlikeP K T 1∧unlikeP K (mirT K (2*R+1) T) 1=unlikeP K T (T.length/K):=by
 constructor
 ·rw [Bool.eq_iff_iff,unlike_leftW (mirT_ok h),unlike_rightW h,mir_leftW h]
 ·rw [Bool.eq_iff_iff,unlike_rightW (mirT_ok h),unlike_leftW h,mir_rightW h]
theorem imgP_cons {K R:Nat} {T:List Int} {x:Int} {w:List Int} (h:2*R≤w.length):imgP K R T (x::w)=T.getD (numW K (x::w.take (2*R))) 0::imgP K R T w:=by
 unfold imgP
 rw [show (x::w).length-2*R=(w.length-2*R)+1 by simp; omega,List.range_succ_eq_map,List.map_cons,List.map_map]
 congr 1
inductive Goes (adj:Nat→List Nat):Nat→Nat→Prop
 | refl (x:Nat):Goes adj x x
 | step {x y z:Nat} (h:Goes adj x y) (hz:z∈adj y):Goes adj x z
theorem Goes.one {adj:Nat→List Nat} {x y:Nat} (h:y∈adj x):Goes adj x y:=.step (.refl x) h
theorem Goes.trans {adj:Nat→List Nat} {x y z:Nat} (h:Goes adj x y) (h2:Goes adj y z):Goes adj x z:=by
 induction h2 with
 | refl=>exact h
 | step _ hz ih=>exact .step ih hz
theorem Goes.closed {adj:Nat→List Nat} {P:Nat→Prop} (hP:∀ x,P x→∀ t∈adj x,P t) {x y:Nat} (h:Goes adj x y) (hx:P x):P y:=by
 induction h with
 | refl=>exact hx
 | step _ hz ih=>exact hP _ ih _ hz
def updN {α:Type} (f:Nat→α) (v:Nat) (a:α):Nat→α:=fun x=>if x=v then a else f x
theorem updN_same {α:Type} (f:Nat→α) (v:Nat) (a:α):updN f v a v=a:=by simp [updN]
theorem updN_other {α:Type} (f:Nat→α) (v:Nat) (a:α) {x:Nat} (h:x≠v):updN f v a x=f x:=by simp [updN,h]
theorem updN_self {α:Type} (f:Nat→α) (v:Nat):updN f v (f v)=f:=by funext x; by_cases h:x=v<;>simp [updN,h]
structure TS where
 time:Nat
 low:Nat→Nat
 found:Nat→Nat
 idx:Nat→Nat
 opn:List Nat
 part:Nat→Int
 calls:List Nat
def enterS (S:TS) (v:Nat):TS:={ S with time:=S.time+1,low:=updN S.low v (S.time+1),found:=updN S.found v (S.time+1),idx:=updN S.idx v 0,opn:=v::S.opn,calls:=v::S.calls }
def closeS (v:Nat):List Nat→(Nat→Int)→List Nat×(Nat→Int)
 | [],p=>([],p)
 | t::r,p=>if t=v then (r,updN p t v) else closeS v r (updN p t v)
def lowS (low:Nat→Nat) (v:Nat):List Nat→Nat→Nat
 | []=>low
 | u::_=>updN low u (min (low u) (low v))
def leaveS (S:TS) (v:Nat) (r:List Nat):TS :=
 if lowS S.low v r v=S.found v then { S with low:=lowS S.low v r,calls:=r,opn:=(closeS v S.opn S.part).1,part:=(closeS v S.opn S.part).2 }
 else { S with low:=lowS S.low v r,calls:=r }
def stepS (adj:Nat→List Nat) (S:TS):TS :=
 match S.calls with
 | []=>S
 | v::r =>
  if S.idx v=(adj v).length then leaveS S v r
  else
   let t:=(adj v).getD (S.idx v) 0
   let S1:={ S with idx:=updN S.idx v (S.idx v+1) }
   if S.found t=0 then enterS S1 t
   else if S.part t<0 then { S1 with low:=updN S.low v (min (S.low v) (S.found t)) }
   else S1
theorem stepS_nil {adj:Nat→List Nat} {S:TS} (hc:S.calls=[]):stepS adj S=S:=by
 cases S; simp only at hc; subst hc; rfl
theorem stepS_cons {adj:Nat→List Nat} {S:TS} {v:Nat} {r:List Nat} (hc:S.calls=v::r):stepS adj S =
 if S.idx v=(adj v).length then leaveS S v r
 else if S.found ((adj v).getD (S.idx v) 0)=0 then enterS { S with idx:=updN S.idx v (S.idx v+1) } ((adj v).getD (S.idx v) 0)
 else if S.part ((adj v).getD (S.idx v) 0)<0 then { S with idx:=updN S.idx v (S.idx v+1),low:=updN S.low v (min (S.low v) (S.found ((adj v).getD (S.idx v) 0))) }
 else { S with idx:=updN S.idx v (S.idx v+1) }:=by
 cases S; simp only at hc; subst hc; rfl
def wsum (c found:Nat→Nat):Nat→Nat
 | 0=>0
 | n+1=>wsum c found n+if found n=0 then c n else 0
theorem wsum_upd (c found:Nat→Nat) (t a:Nat) (ha:a≠0) (ht:found t=0) (n:Nat) :
 wsum c (updN found t a) n+(if t<n then c t else 0)=wsum c found n:=by
 induction n with
 | zero=>simp [wsum]
 | succ n ih =>
  simp only [wsum]
  by_cases e:n=t
  ·subst e
   rw [if_neg (Nat.lt_irrefl n)] at ih
   rw [updN_same,if_neg ha,if_pos ht,if_pos (by omega)]; omega
  ·rw [updN_other _ _ _ e]
   by_cases h:t<n
   ·rw [if_pos h] at ih; rw [if_pos (show t<n+1 by omega)]; omega
   ·rw [if_neg h] at ih; rw [if_neg (show ¬ t<n+1 by omega)]; omega
structure TInv (n:Nat) (adj:Nat→List Nat) (S:TS):Prop where
 adjLt:∀ v,v<n→∀ t∈adj v,t<n
 seenLt:∀ v,S.found v≠0→v<n
 leTime:∀ v,S.found v≤S.time
 count:S.time+wsum (fun _=>1) S.found n=n
 inj:∀ x y,S.found x=S.found y→S.found x≠0→x=y
 opnIff:∀ v,v∈S.opn↔S.found v≠0∧S.part v<0
 opnSorted:S.opn.Pairwise (fun a b=>S.found b<S.found a)
 callsSorted:S.calls.Pairwise (fun a b=>S.found b<S.found a)
 callsOpen:∀ c∈S.calls,c∈S.opn
 idxLe:∀ v,v∈S.opn→S.idx v≤(adj v).length
 idxDone:∀ v,v∈S.opn→v∉S.calls→S.idx v=(adj v).length
 partSeen:∀ v,0≤S.part v→S.found v≠0
 partLow:∀ v,-1≤S.part v
 A:∀ c∈S.calls,∀ x∈S.opn,S.found c≤S.found x→Goes adj c x
 B:∀ x∈S.opn,∃ c∈S.calls,S.found c≤S.found x∧Goes adj x c
 C:∀ x,0≤S.part x→∀ t∈adj x,0≤S.part t
 D:∀ x∈S.opn,∀ j<S.idx x,∀ t,(adj x)[j]?=some t→S.found t≠0
 E:∀ x∈S.opn,∀ j<S.idx x,∀ t∈S.opn,(adj x)[j]?=some t→∀ c∈S.calls,S.found c≤S.found x →
  (∀ d∈S.calls,S.found d≤S.found x→S.found d≤S.found c)→S.low c≤S.found t
 F:∀ c∈S.calls,S.low c≤S.found c
 G:∀ c∈S.calls,∃ z∈S.opn,S.found z=S.low c∧Goes adj c z
 P1:∀ x,0≤S.part x→∃ p:Nat,S.part x=p∧0≤S.part p∧Goes adj x p∧Goes adj p x
 P2:∀ x y,0≤S.part x→0≤S.part y→Goes adj x y→Goes adj y x→S.part x=S.part y
variable {n:Nat} {adj:Nat→List Nat} {S:TS}
theorem TInv.callsSeen (h:TInv n adj S) {c:Nat} (hc:c∈S.calls):S.found c≠0∧S.part c<0:=(h.opnIff c).1 (h.callsOpen c hc)
theorem TInv.opn_nil (h:TInv n adj S) (hc:S.calls=[]):S.opn=[]:=by
 cases e:S.opn with
 | nil=>rfl
 | cons x l =>
  obtain ⟨c,hm,_⟩:=h.B x (by rw [e]; exact List.mem_cons_self)
  rw [hc] at hm; cases hm
theorem TInv.enterRoot (h:TInv n adj S) (hc:S.calls=[]) {v:Nat} (hv:v<n) (hw:S.found v=0):TInv n adj (enterS S v):=by
 have ho:=h.opn_nil hc
 have hp:S.part v<0:=by
  by_cases hp:S.part v<0
  ·exact hp
  ·exact absurd hw (h.partSeen v (by omega))
 have hcnt:=wsum_upd (fun _=>1) S.found v (S.time+1) (by omega) hw n
 rw [if_pos hv] at hcnt
 have hcl:∀ x,0≤S.part x→x≠v:=fun x hx e=>by subst e; omega
 constructor
 case adjLt=>exact h.adjLt
 case seenLt =>
  intro x hx
  by_cases e:x=v
  ·omega
  ·simp only [enterS,updN_other _ _ _ e] at hx; exact h.seenLt x hx
 case leTime =>
  intro x
  simp only [enterS]
  by_cases e:x=v
  ·subst e; rw [updN_same]; omega
  ·rw [updN_other _ _ _ e]; have:=h.leTime x; omega
 case count=>simp only [enterS]; have:=h.count; omega
 case inj =>
  intro x y hxy hx
  simp only [enterS] at hxy hx
  by_cases ex:x=v<;>by_cases ey:y=v
  ·omega
  ·subst ex; rw [updN_same,updN_other _ _ _ ey] at hxy; have:=h.leTime y; omega
  ·subst ey; rw [updN_same,updN_other _ _ _ ex] at hxy; have:=h.leTime x; omega
  ·rw [updN_other _ _ _ ex,updN_other _ _ _ ey] at hxy; rw [updN_other _ _ _ ex] at hx; exact h.inj x y hxy hx
 case opnIff =>
  intro x
  simp only [enterS,ho,List.mem_singleton]
  by_cases e:x=v
  ·subst e; rw [updN_same]; exact ⟨fun _=>⟨by omega,hp⟩,fun _=>rfl⟩
  ·rw [updN_other _ _ _ e]
   refine ⟨fun h1=>absurd h1 e,fun h1=>?_⟩
   have:=(h.opnIff x).2 h1; rw [ho] at this; cases this
 case opnSorted=>simp only [enterS,ho]; exact List.pairwise_singleton _ _
 case callsSorted=>simp only [enterS,hc]; exact List.pairwise_singleton _ _
 case callsOpen=>intro c hc2; simp only [enterS,hc,ho] at hc2 ⊢; exact hc2
 case idxLe =>
  intro x hx; simp only [enterS,ho,List.mem_singleton] at hx ⊢; subst hx; rw [updN_same]; omega
 case idxDone=>intro x hx hx2; simp only [enterS,hc,ho] at hx hx2; exact absurd hx hx2
 case partSeen =>
  intro x hx; simp only [enterS] at hx ⊢; rw [updN_other _ _ _ (hcl x hx)]; exact h.partSeen x hx
 case partLow=>exact h.partLow
 case A =>
  intro c hc2 x hx _
  simp only [enterS,hc,ho,List.mem_singleton] at hc2 hx
  subst hc2; subst hx; exact .refl _
 case B =>
  intro x hx
  simp only [enterS,ho,List.mem_singleton] at hx
  subst hx; exact ⟨x,by simp [enterS],Nat.le_refl _,.refl _⟩
 case C=>exact h.C
 case D =>
  intro x hx j hj; simp only [enterS,ho,List.mem_singleton] at hx hj; subst hx; rw [updN_same] at hj; omega
 case E =>
  intro x hx j hj; simp only [enterS,ho,List.mem_singleton] at hx hj; subst hx; rw [updN_same] at hj; omega
 case F =>
  intro c hc2; simp only [enterS,hc,List.mem_singleton] at hc2 ⊢; subst hc2; rw [updN_same,updN_same]; exact Nat.le_refl _
 case G =>
  intro c hc2; simp only [enterS,hc,List.mem_singleton] at hc2 ⊢; subst hc2; exact ⟨c,List.mem_cons_self,by rw [updN_same,updN_same],.refl _⟩
 case P1=>exact h.P1
 case P2=>exact h.P2
theorem TInv.enterEdge (h:TInv n adj S) {v:Nat} {r:List Nat} (hc:S.calls=v::r) {t:Nat} (ht:(adj v)[S.idx v]?=some t) (hw:S.found t=0) :
 TInv n adj (enterS { S with idx:=updN S.idx v (S.idx v+1) } t):=by
 have hvc:v∈S.calls:=by rw [hc]; exact List.mem_cons_self
 have hvo:=h.callsOpen v hvc
 have hvs:=h.callsSeen hvc
 have hvn:=h.seenLt v hvs.1
 have htm:t∈adj v:=List.mem_of_getElem? ht
 have htn:=h.adjLt v hvn t htm
 have hil:S.idx v<(adj v).length:=by
  by_cases q:S.idx v<(adj v).length
  ·exact q
  ·rw [List.getElem?_eq_none (by omega)] at ht; cases ht
 have hp:S.part t<0:=by
  by_cases hp:S.part t<0
  ·exact hp
  ·exact absurd hw (h.partSeen t (by omega))
 have hcnt:=wsum_upd (fun _=>1) S.found t (S.time+1) (by omega) hw n
 rw [if_pos htn] at hcnt
 have hcl:∀ x,0≤S.part x→x≠t:=fun x hx e=>by subst e; omega
 have hop:∀ x,x∈S.opn→x≠t:=fun x hx e=>by subst e; exact ((h.opnIff x).1 hx).1 hw
 have hca:∀ x,x∈S.calls→x≠t:=fun x hx=>hop x (h.callsOpen x hx)
 have fo:∀ x,x∈S.opn→updN S.found t (S.time+1) x=S.found x:=fun x hx=>updN_other _ _ _ (hop x hx)
 have fc:∀ x,x∈S.calls→updN S.found t (S.time+1) x=S.found x:=fun x hx=>updN_other _ _ _ (hca x hx)
 have lc:∀ x,x∈S.calls→updN S.low t (S.time+1) x=S.low x:=fun x hx=>updN_other _ _ _ (hca x hx)
 have ft:updN S.found t (S.time+1) t=S.time+1:=updN_same _ _ _
 have lt:updN S.low t (S.time+1) t=S.time+1:=updN_same _ _ _
 have hgt:∀ c∈S.calls,Goes adj c t:=fun c hcm=>by
  refine .step (h.A c hcm v hvo ?_) htm
  have:=h.callsSorted
  rw [hc] at this hcm
  rcases List.mem_cons.1 hcm with e | e
  ·rw [e]; exact Nat.le_refl _
  ·exact Nat.le_of_lt ((List.pairwise_cons.1 this).1 c e)
 have ix:∀ x,x∈S.opn→∀ j,j<updN (updN S.idx v (S.idx v+1)) t 0 x→j<S.idx x∨(x=v∧j=S.idx v):=fun x hx j hj=>by
  rw [updN_other _ _ _ (hop x hx)] at hj
  by_cases e:x=v
  ·subst e; rw [updN_same] at hj; omega
  ·rw [updN_other _ _ _ e] at hj; exact .inl hj
 have mono:∀ x,S.found x≠0→updN S.found t (S.time+1) x≠0:=fun x hx=>by
  by_cases e:x=t
  ·subst e; exact absurd hw hx
  ·rw [updN_other _ _ _ e]; exact hx
 constructor
 case adjLt=>exact h.adjLt
 case seenLt =>
  intro x hx
  by_cases e:x=t
  ·omega
  ·simp only [enterS,updN_other _ _ _ e] at hx; exact h.seenLt x hx
 case leTime =>
  intro x
  simp only [enterS]
  by_cases e:x=t
  ·subst e; rw [updN_same]; omega
  ·rw [updN_other _ _ _ e]; have:=h.leTime x; omega
 case count=>simp only [enterS]; have:=h.count; omega
 case inj =>
  intro x y hxy hx
  simp only [enterS] at hxy hx
  by_cases ex:x=t<;>by_cases ey:y=t
  ·omega
  ·subst ex; rw [updN_same,updN_other _ _ _ ey] at hxy; have:=h.leTime y; omega
  ·subst ey; rw [updN_same,updN_other _ _ _ ex] at hxy; have:=h.leTime x; omega
  ·rw [updN_other _ _ _ ex,updN_other _ _ _ ey] at hxy; rw [updN_other _ _ _ ex] at hx; exact h.inj x y hxy hx
 case opnIff =>
  intro x
  simp only [enterS,List.mem_cons]
  by_cases e:x=t
  ·subst e; rw [updN_same]; exact ⟨fun _=>⟨by omega,hp⟩,fun _=>.inl rfl⟩
  ·rw [updN_other _ _ _ e,← h.opnIff x]
   exact ⟨fun h1=>h1.resolve_left e,.inr⟩
 case opnSorted =>
  simp only [enterS]
  refine List.pairwise_cons.2 ⟨fun x hx=>?_,h.opnSorted.imp_of_mem fun ha hb hab=>?_⟩
  ·rw [fo x hx,ft]; have:=h.leTime x; omega
  ·rw [fo _ ha,fo _ hb]; exact hab
 case callsSorted =>
  simp only [enterS]
  refine List.pairwise_cons.2 ⟨fun x hx=>?_,h.callsSorted.imp_of_mem fun ha hb hab=>?_⟩
  ·rw [fc x hx,ft]; have:=h.leTime x; omega
  ·rw [fc _ ha,fc _ hb]; exact hab
 case callsOpen =>
  intro c hc2; simp only [enterS,List.mem_cons] at hc2 ⊢; exact hc2.imp id (h.callsOpen c)
 case idxLe =>
  intro x hx; simp only [enterS,List.mem_cons] at hx ⊢
  rcases hx with rfl | hx
  ·rw [updN_same]; omega
  ·rw [updN_other _ _ _ (hop x hx)]
   by_cases e:x=v
   ·subst e; rw [updN_same]; omega
   ·rw [updN_other _ _ _ e]; exact h.idxLe x hx
 case idxDone =>
  intro x hx hx2; simp only [enterS,List.mem_cons,not_or] at hx hx2 ⊢
  have hx3:=hx.resolve_left hx2.1
  rw [updN_other _ _ _ hx2.1,updN_other _ _ _ (fun e=>hx2.2 (by rw [e]; exact hvc))]
  exact h.idxDone x hx3 hx2.2
 case partSeen =>
  intro x hx; simp only [enterS] at hx ⊢; rw [updN_other _ _ _ (hcl x hx)]; exact h.partSeen x hx
 case partLow=>exact h.partLow
 case A =>
  intro c hc2 x hx hle
  simp only [enterS,List.mem_cons] at hc2 hx hle
  rcases hc2 with rfl | hc2
  ·rcases hx with rfl | hx
   ·exact .refl _
   ·rw [ft,fo x hx] at hle; have:=h.leTime x; omega
  ·rcases hx with rfl | hx
   ·exact hgt c hc2
   ·rw [fo x hx,fc c hc2] at hle; exact h.A c hc2 x hx hle
 case B =>
  intro x hx
  simp only [enterS,List.mem_cons] at hx
  rcases hx with rfl | hx
  ·exact ⟨x,by simp [enterS],Nat.le_refl _,.refl _⟩
  ·obtain ⟨c,h1,h2,h3⟩:=h.B x hx
   refine ⟨c,by simp only [enterS,List.mem_cons]; exact .inr h1,?_,h3⟩
   simp only [enterS]; rw [fo x hx,fc c h1]; exact h2
 case C=>exact h.C
 case D =>
  intro x hx j hj t' ht'
  simp only [enterS,List.mem_cons] at hx hj ⊢
  rcases hx with rfl | hx
  ·rw [updN_same] at hj; omega
  ·rcases ix x hx j hj with hj | ⟨rfl,rfl⟩
   ·exact mono _ (h.D x hx j hj t' ht')
   ·rw [ht] at ht'; cases ht'; rw [ft]; omega
 case E =>
  intro x hx j hj t' hto ht' c hc2 hle htop
  simp only [enterS,List.mem_cons] at hx hj hto hc2 hle htop ⊢
  rcases hx with rfl | hx
  ·rw [updN_same] at hj; omega
  ·rcases hc2 with rfl | hc2
   ·rw [ft,fo x hx] at hle; have:=h.leTime x; omega
   ·rw [fc c hc2,fo x hx] at hle
    rw [lc c hc2]
    rcases hto with rfl | hto
    ·rw [ft]; have:=h.F c hc2; have:=h.leTime c; omega
    ·rw [fo _ hto]
     rcases ix x hx j hj with hj | ⟨rfl,rfl⟩
     ·refine h.E x hx j hj t' hto ht' c hc2 hle fun d hd hd2=>?_
      have:=htop d (.inr hd) (by rw [fc d hd,fo x hx]; exact hd2)
      rwa [fc d hd,fc c hc2] at this
     ·rw [ht] at ht'; cases ht'; exact absurd rfl (hop _ hto)
 case F =>
  intro c hc2; simp only [enterS,List.mem_cons] at hc2 ⊢
  rcases hc2 with rfl | hc2
  ·rw [updN_same,updN_same]; exact Nat.le_refl _
  ·rw [lc c hc2,fc c hc2]; exact h.F c hc2
 case G =>
  intro c hc2; simp only [enterS,List.mem_cons] at hc2 ⊢
  rcases hc2 with rfl | hc2
  ·exact ⟨c,.inl rfl,by rw [updN_same,updN_same],.refl _⟩
  ·obtain ⟨z,h1,h2,h3⟩:=h.G c hc2
   exact ⟨z,.inr h1,by rw [lc c hc2,fo z h1]; exact h2,h3⟩
 case P1=>exact h.P1
 case P2=>exact h.P2
theorem TInv.edge (h:TInv n adj S) {v:Nat} {r:List Nat} (hc:S.calls=v::r) {t:Nat} (ht:(adj v)[S.idx v]?=some t) (hw:S.found t≠0) (lo:Nat→Nat)
 (hlo:∀ c,c≠v→lo c=S.low c) (hle:lo v≤S.low v) (hlt:S.part t<0→lo v≤S.found t) (hlg:lo v=S.low v∨(S.part t<0∧lo v=S.found t)) :
 TInv n adj { S with idx:=updN S.idx v (S.idx v+1),low:=lo }:=by
 have hvc:v∈S.calls:=by rw [hc]; exact List.mem_cons_self
 have hvo:=h.callsOpen v hvc
 have htm:t∈adj v:=List.mem_of_getElem? ht
 have hil:S.idx v<(adj v).length:=by
  by_cases q:S.idx v<(adj v).length
  ·exact q
  ·rw [List.getElem?_eq_none (by omega)] at ht; cases ht
 have lol:∀ c,lo c≤S.low c:=fun c=>by
  by_cases e:c=v
  ·rw [e]; exact hle
  ·rw [hlo c e]; exact Nat.le_refl _
 have ix:∀ x,∀ j,j<updN S.idx v (S.idx v+1) x→j<S.idx x∨(x=v∧j=S.idx v):=fun x j hj=>by
  by_cases e:x=v
  ·subst e; rw [updN_same] at hj; omega
  ·rw [updN_other _ _ _ e] at hj; exact .inl hj
 constructor
 case adjLt=>exact h.adjLt
 case seenLt=>exact h.seenLt
 case leTime=>exact h.leTime
 case count=>exact h.count
 case inj=>exact h.inj
 case opnIff=>exact h.opnIff
 case opnSorted=>exact h.opnSorted
 case callsSorted=>exact h.callsSorted
 case callsOpen=>exact h.callsOpen
 case idxLe =>
  intro x hx
  show updN S.idx v (S.idx v+1) x≤_
  by_cases e:x=v
  ·subst e; rw [updN_same]; omega
  ·rw [updN_other _ _ _ e]; exact h.idxLe x hx
 case idxDone =>
  intro x hx hx2
  show updN S.idx v (S.idx v+1) x=_
  rw [updN_other _ _ _ (fun e=>hx2 (by rw [e]; exact hvc))]
  exact h.idxDone x hx hx2
 case partSeen=>exact h.partSeen
 case partLow=>exact h.partLow
 case A=>exact h.A
 case B=>exact h.B
 case C=>exact h.C
 case D =>
  intro x hx j hj t' ht'
  rcases ix x j hj with hj | ⟨rfl,rfl⟩
  ·exact h.D x hx j hj t' ht'
  ·rw [ht] at ht'; cases ht'; exact hw
 case E =>
  intro x hx j hj t' hto ht' c hc2 hcx htop
  show lo c≤_
  rcases ix x j hj with hj | ⟨rfl,rfl⟩
  ·exact Nat.le_trans (lol c) (h.E x hx j hj t' hto ht' c hc2 hcx htop)
  ·rw [ht] at ht'; cases ht'
   have e:c=x:=by
    have h1:=htop x hvc (Nat.le_refl _)
    exact h.inj c x (by have h2:S.found c≤S.found x:=hcx; have h3:S.found x≤S.found c:=h1; omega) (h.callsSeen hc2).1
   subst e
   exact hlt ((h.opnIff t).1 hto).2
 case F=>intro c hc2; exact Nat.le_trans (lol c) (h.F c hc2)
 case G =>
  intro c hc2
  show ∃ z∈S.opn,S.found z=lo c∧_
  by_cases e:c=v
  ·subst e
   rcases hlg with e | ⟨e1,e2⟩
   ·rw [e]; exact h.G c hc2
   ·exact ⟨t,(h.opnIff t).2 ⟨hw,e1⟩,e2.symm,.one htm⟩
  ·rw [hlo c e]; exact h.G c hc2
 case P1=>exact h.P1
 case P2=>exact h.P2
theorem TInv.low_eq (h:TInv n adj S) {v:Nat} {r:List Nat} (hc:S.calls=v::r):lowS S.low v r v=S.low v:=by
 cases r with
 | nil=>rfl
 | cons u r =>
  have:=h.callsSorted
  rw [hc] at this
  have h1:=(List.pairwise_cons.1 this).1 u List.mem_cons_self
  exact updN_other _ _ _ (fun e=>by subst e; omega)
theorem TInv.leaveN (h:TInv n adj S) {v:Nat} {r:List Nat} (hc:S.calls=v::r) (hi:S.idx v=(adj v).length) (hl:S.low v≠S.found v) :
 TInv n adj { S with low:=lowS S.low v r,calls:=r }:=by
 have hvc:v∈S.calls:=by rw [hc]; exact List.mem_cons_self
 have hvo:=h.callsOpen v hvc
 have hsrt:=h.callsSorted
 rw [hc] at hsrt
 have hrl:∀ c∈r,S.found c<S.found v:=(List.pairwise_cons.1 hsrt).1
 have hsub:∀ c∈r,c∈S.calls:=fun c hm=>by rw [hc]; exact List.mem_cons_of_mem _ hm
 have hcs:∀ c∈S.calls,c=v∨c∈r:=fun c hm=>by rw [hc] at hm; exact List.mem_cons.1 hm
 have hF:=h.F v hvc
 obtain ⟨z,hz1,hz2,hz3⟩:=h.G v hvc
 obtain ⟨g,hg1,hg2,hg3⟩:=h.B z hz1
 have hgr:g∈r:=(hcs g hg1).resolve_left (fun e=>by subst e; omega)
 obtain ⟨u,r',rfl⟩:∃ u r',r=u::r':=by cases r with
  | nil=>cases hgr
  | cons u r'=>exact ⟨u,r',rfl⟩
 have hur:u∈u::r':=List.mem_cons_self
 have huc:=hsub u hur
 have hru:∀ c∈u::r',S.found c≤S.found u:=fun c hm=>by
  rcases List.mem_cons.1 hm with e | e
  ·rw [e]; exact Nat.le_refl _
  ·exact Nat.le_of_lt ((List.pairwise_cons.1 (List.pairwise_cons.1 hsrt).2).1 c e)
 have lol:∀ c,lowS S.low v (u::r') c≤S.low c:=fun c=>by
  show updN S.low u _ c≤_
  by_cases e:c=u
  ·subst e; rw [updN_same]; omega
  ·rw [updN_other _ _ _ e]; exact Nat.le_refl _
 have lou:lowS S.low v (u::r') u=min (S.low u) (S.low v):=updN_same _ _ _
 have loc:∀ c,c≠u→lowS S.low v (u::r') c=S.low c:=fun c e=>updN_other _ _ _ e
 constructor
 case adjLt=>exact h.adjLt
 case seenLt=>exact h.seenLt
 case leTime=>exact h.leTime
 case count=>exact h.count
 case inj=>exact h.inj
 case opnIff=>exact h.opnIff
 case opnSorted=>exact h.opnSorted
 case callsSorted=>exact (List.pairwise_cons.1 hsrt).2
 case callsOpen=>exact fun c hm=>h.callsOpen c (hsub c hm)
 case idxLe=>exact h.idxLe
 case idxDone =>
  intro x hx hx2
  show S.idx x=_
  by_cases e:x=v
  ·rw [e]; exact hi
  ·exact h.idxDone x hx (fun hm=>(hcs x hm).elim e hx2)
 case partSeen=>exact h.partSeen
 case partLow=>exact h.partLow
 case A=>exact fun c hm=>h.A c (hsub c hm)
 case B =>
  intro x hx
  obtain ⟨c,h1,h2,h3⟩:=h.B x hx
  rcases hcs c h1 with rfl | hcr
  ·refine ⟨g,hgr,?_,h3.trans (hz3.trans hg3)⟩
   show S.found g≤S.found x
   omega
  ·exact ⟨c,hcr,h2,h3⟩
 case C=>exact h.C
 case D=>exact h.D
 case E =>
  intro x hx j hj t hto ht c hc2 hcx htop
  have hcx:S.found c≤S.found x:=hcx
  have htop:∀ d∈u::r',S.found d≤S.found x→S.found d≤S.found c:=htop
  show lowS S.low v (u::r') c≤S.found t
  by_cases hvx:S.found v≤S.found x
  ·have hux:=htop u hur (by have:=hrl u hur; omega)
   have hcu:=hru c hc2
   have e:c=u:=h.inj c u (by omega) (h.callsSeen (hsub c hc2)).1
   rw [e,lou]
   have:=h.E x hx j hj t hto ht v hvc hvx (fun d hd _=>by
    rcases hcs d hd with e | e
    ·rw [e]; exact Nat.le_refl _
    ·exact Nat.le_of_lt (hrl d e))
   omega
  ·refine Nat.le_trans (lol c) (h.E x hx j hj t hto ht c (hsub c hc2) hcx fun d hd hdx=>?_)
   rcases hcs d hd with e | e
   ·rw [e] at hdx; exact absurd hdx hvx
   ·exact htop d e hdx
 case F=>exact fun c hm=>Nat.le_trans (lol c) (h.F c (hsub c hm))
 case G =>
  intro c hc2
  show ∃ z∈S.opn,S.found z=lowS S.low v (u::r') c∧_
  by_cases e:c=u
  ·subst e
   rw [lou]
   by_cases q:S.low v≤S.low c
   ·rw [Nat.min_eq_right q]
    exact ⟨z,hz1,hz2,(h.A c huc v hvo (Nat.le_of_lt (hrl c hur))).trans hz3⟩
   ·rw [Nat.min_eq_left (by omega)]; exact h.G c huc
  ·rw [loc c e]; exact h.G c (hsub c hc2)
 case P1=>exact h.P1
 case P2=>exact h.P2
theorem closeS_spec (found:Nat→Nat) (v:Nat):∀ (l:List Nat) (p:Nat→Int),l.Pairwise (fun a b=>found b<found a)→v∈l →
 (closeS v l p).1.Sublist l∧(∀ x,x∈(closeS v l p).1↔x∈l∧found x<found v) ∧
 (∀ x,(x∈l∧found v≤found x)→(closeS v l p).2 x=(v:Int))∧(∀ x,¬ (x∈l∧found v≤found x)→(closeS v l p).2 x=p x):=by
 intro l
 induction l with
 | nil=>intro p _ h; cases h
 | cons t r ih =>
  intro p hs hv
  have ⟨h1,h2⟩:=List.pairwise_cons.1 hs
  unfold closeS
  by_cases e:t=v
  ·subst e
   rw [if_pos rfl]
   refine ⟨List.sublist_cons_self _ _,fun x=>?_,fun x ⟨hx,hf⟩=>?_,fun x hx=>?_⟩
   ·refine ⟨fun hx=>⟨List.mem_cons_of_mem _ hx,h1 x hx⟩,fun ⟨hx,hf⟩=>?_⟩
    rcases List.mem_cons.1 hx with e | e
    ·subst e; omega
    ·exact e
   ·rcases List.mem_cons.1 hx with e | e
    ·subst e; exact updN_same _ _ _
    ·have:=h1 x e; omega
   ·exact updN_other _ _ _ (fun e=>hx (by rw [e]; exact ⟨List.mem_cons_self,Nat.le_refl _⟩))
  ·rw [if_neg e]
   have hvr:v∈r:=(List.mem_cons.1 hv).resolve_left (fun q=>e q.symm)
   obtain ⟨i1,i2,i3,i4⟩:=ih (updN p t v) h2 hvr
   have htv:=h1 v hvr
   refine ⟨i1.trans (List.sublist_cons_self _ _),fun x=>?_,fun x ⟨hx,hf⟩=>?_,fun x hx=>?_⟩
   ·rw [i2 x]
    refine ⟨fun ⟨a,b⟩=>⟨List.mem_cons_of_mem _ a,b⟩,fun ⟨a,b⟩=>⟨?_,b⟩⟩
    rcases List.mem_cons.1 a with e | e
    ·subst e; omega
    ·exact e
   ·by_cases hxr:x∈r
    ·exact i3 x ⟨hxr,hf⟩
    ·rw [i4 x (fun q=>hxr q.1)]
     rcases List.mem_cons.1 hx with e | e
     ·subst e; exact updN_same _ _ _
     ·exact absurd e hxr
   ·rw [i4 x (fun q=>hx ⟨List.mem_cons_of_mem _ q.1,q.2⟩)]
    exact updN_other _ _ _ (fun e=>hx (by rw [e]; exact ⟨List.mem_cons_self,Nat.le_of_lt htv⟩))
theorem TInv.leaveC (h:TInv n adj S) {v:Nat} {r:List Nat} (hc:S.calls=v::r) (hi:S.idx v=(adj v).length) (hl:S.low v=S.found v) :
 TInv n adj { S with low:=lowS S.low v r,calls:=r,opn:=(closeS v S.opn S.part).1,part:=(closeS v S.opn S.part).2 }:=by
 have hvc:v∈S.calls:=by rw [hc]; exact List.mem_cons_self
 have hvo:=h.callsOpen v hvc
 have hsrt:=h.callsSorted
 rw [hc] at hsrt
 have hrl:∀ c∈r,S.found c<S.found v:=(List.pairwise_cons.1 hsrt).1
 have hsub:∀ c∈r,c∈S.calls:=fun c hm=>by rw [hc]; exact List.mem_cons_of_mem _ hm
 have hcs:∀ c∈S.calls,c=v∨c∈r:=fun c hm=>by rw [hc] at hm; exact List.mem_cons.1 hm
 have hlow:lowS S.low v r=S.low:=by
  cases r with
  | nil=>rfl
  | cons u r' =>
   have h1:=hrl u List.mem_cons_self
   have h2:=h.F u (hsub u List.mem_cons_self)
   show updN S.low u _=_
   rw [Nat.min_eq_left (by omega),updN_self]
 rw [hlow]
 obtain ⟨k1,k2,k3,k4⟩:=closeS_spec S.found v S.opn S.part h.opnSorted hvo
 generalize (closeS v S.opn S.part).1=O at *
 generalize (closeS v S.opn S.part).2=P at *
 have seg:∀ x,x∈S.opn→S.found v≤S.found x→Goes adj v x∧Goes adj x v:=fun x hx hf=>by
  refine ⟨h.A v hvc x hx hf,?_⟩
  obtain ⟨c,h1,h2,h3⟩:=h.B x hx
  rcases hcs c h1 with e | e
  ·rw [← e]; exact h3
  ·exact h3.trans (h.A c h1 v hvo (Nat.le_of_lt (hrl c e)))
 have old:∀ x,0≤S.part x→P x=S.part x:=fun x hx=>k4 x (fun q=>by have:=((h.opnIff x).1 q.1).2; omega)
 have new:∀ x,0≤P x→0≤S.part x∨(x∈S.opn∧S.found v≤S.found x):=fun x hx=>by
  by_cases q:x∈S.opn∧S.found v≤S.found x
  ·exact .inr q
  ·rw [k4 x q] at hx; exact .inl hx
 have C2:∀ x,0≤P x→∀ t∈adj x,0≤P t:=fun x hx t ht=>by
  rcases new x hx with hx | ⟨hxo,hxf⟩
  ·have:=h.C x hx t ht; rw [old t this]; exact this
  ·obtain ⟨j,hj⟩:=List.mem_iff_getElem?.1 ht
   have hjl:j<(adj x).length:=by
    by_cases q:j<(adj x).length
    ·exact q
    ·rw [List.getElem?_eq_none (by omega)] at hj; cases hj
   have hix:S.idx x=(adj x).length:=by
    by_cases e:x=v
    ·rw [e]; exact hi
    ·refine h.idxDone x hxo (fun hm=>?_)
     rcases hcs x hm with q | q
     ·exact e q
     ·have:=hrl x q; omega
   have hft:=h.D x hxo j (by omega) t hj
   by_cases hp:0≤S.part t
   ·rw [old t hp]; exact hp
   ·have hto:=(h.opnIff t).2 ⟨hft,by omega⟩
    have:=h.E x hxo j (by omega) t hto hj v hvc hxf (fun d hd _=>by
     rcases hcs d hd with e | e
     ·rw [e]; exact Nat.le_refl _
     ·exact Nat.le_of_lt (hrl d e))
    rw [k3 t ⟨hto,by omega⟩]; omega
 constructor
 case adjLt=>exact h.adjLt
 case seenLt=>exact h.seenLt
 case leTime=>exact h.leTime
 case count=>exact h.count
 case inj=>exact h.inj
 case opnIff =>
  intro x
  show x∈O↔S.found x≠0∧P x<0
  rw [k2 x]
  constructor
  ·rintro ⟨a,b⟩
   have:=(h.opnIff x).1 a
   rw [k4 x (fun q=>by omega)]; exact this
  ·rintro ⟨a,b⟩
   by_cases q:x∈S.opn∧S.found v≤S.found x
   ·rw [k3 x q] at b; omega
   ·rw [k4 x q] at b
    have:=(h.opnIff x).2 ⟨a,b⟩
    exact ⟨this,by have:¬ S.found v≤S.found x:=fun w=>q ⟨this,w⟩; omega⟩
 case opnSorted=>exact h.opnSorted.sublist k1
 case callsSorted=>exact (List.pairwise_cons.1 hsrt).2
 case callsOpen=>exact fun c hm=>(k2 c).2 ⟨h.callsOpen c (hsub c hm),hrl c hm⟩
 case idxLe=>exact fun x hx=>h.idxLe x ((k2 x).1 hx).1
 case idxDone =>
  intro x hx hx2
  refine h.idxDone x ((k2 x).1 hx).1 (fun hm=>?_)
  rcases hcs x hm with e | e
  ·have:=((k2 x).1 hx).2; subst e; omega
  ·exact hx2 e
 case partSeen =>
  intro x hx
  rcases new x hx with q | q
  ·exact h.partSeen x q
  ·exact ((h.opnIff x).1 q.1).1
 case partLow =>
  intro x
  show -1≤P x
  by_cases q:x∈S.opn∧S.found v≤S.found x
  ·rw [k3 x q]; omega
  ·rw [k4 x q]; exact h.partLow x
 case A=>exact fun c hm x hx hf=>h.A c (hsub c hm) x ((k2 x).1 hx).1 hf
 case B =>
  intro x hx
  have ⟨hx1,hx2⟩:=(k2 x).1 hx
  obtain ⟨c,h1,h2,h3⟩:=h.B x hx1
  rcases hcs c h1 with e | e
  ·subst e; omega
  ·exact ⟨c,e,h2,h3⟩
 case C=>exact C2
 case D=>exact fun x hx=>h.D x ((k2 x).1 hx).1
 case E =>
  intro x hx j hj t hto ht c hc2 hcx htop
  have ⟨hx1,hx2⟩:=(k2 x).1 hx
  refine h.E x hx1 j hj t ((k2 t).1 hto).1 ht c (hsub c hc2) hcx fun d hd hdx=>?_
  rcases hcs d hd with e | e
  ·subst e; omega
  ·exact htop d e hdx
 case F=>exact fun c hm=>h.F c (hsub c hm)
 case G =>
  intro c hm
  obtain ⟨z,h1,h2,h3⟩:=h.G c (hsub c hm)
  have:=h.F c (hsub c hm)
  have:=hrl c hm
  exact ⟨z,(k2 z).2 ⟨h1,by omega⟩,h2,h3⟩
 case P1 =>
  intro x hx
  rcases new x hx with q | q
  ·obtain ⟨p,a,b,c,d⟩:=h.P1 x q
   exact ⟨p,by show P x=_; rw [old x q]; exact a,by show 0≤P p; rw [old _ b]; exact b,c,d⟩
  ·have:=seg x q.1 q.2
   exact ⟨v,k3 x q,by show 0≤P v; rw [k3 v ⟨hvo,Nat.le_refl _⟩]; omega,this.2,this.1⟩
 case P2 =>
  intro x y hx hy hxy hyx
  show P x=P y
  rcases new x hx with q | q<;>rcases new y hy with q' | q'
  ·rw [old x q,old y q']; exact h.P2 x y q q' hxy hyx
  ·have:=Goes.closed (P:=fun z=>0≤S.part z) h.C hxy q
   have:=((h.opnIff y).1 q'.1).2; omega
  ·have:=Goes.closed (P:=fun z=>0≤S.part z) h.C hyx q'
   have:=((h.opnIff x).1 q.1).2; omega
  ·rw [k3 x q,k3 y q']
theorem TInv.leave (h:TInv n adj S) {v:Nat} {r:List Nat} (hc:S.calls=v::r) (hi:S.idx v=(adj v).length):TInv n adj (leaveS S v r):=by
 unfold leaveS
 rw [h.low_eq hc]
 split
 ·next q=>exact h.leaveC hc hi q
 ·next q=>exact h.leaveN hc hi q
theorem TInv.idx_get (h:TInv n adj S) {v:Nat} {r:List Nat} (hc:S.calls=v::r) (hi:S.idx v≠(adj v).length) :
 S.idx v<(adj v).length∧(adj v)[S.idx v]?=some ((adj v).getD (S.idx v) 0)∧(adj v).getD (S.idx v) 0<n:=by
 have hvc:v∈S.calls:=by rw [hc]; exact List.mem_cons_self
 have hvo:=h.callsOpen v hvc
 have h1:S.idx v<(adj v).length:=by have:=h.idxLe v hvo; omega
 have h2:(adj v)[S.idx v]?=some ((adj v).getD (S.idx v) 0):=by simp [List.getD,List.getElem?_eq_getElem h1]
 exact ⟨h1,h2,h.adjLt v (h.seenLt v (h.callsSeen hvc).1) _ (List.mem_of_getElem? h2)⟩
theorem TInv.step (h:TInv n adj S):TInv n adj (stepS adj S):=by
 cases hc:S.calls with
 | nil=>rw [stepS_nil hc]; exact h
 | cons v r =>
  rw [stepS_cons hc]
  by_cases hi:S.idx v=(adj v).length
  ·rw [if_pos hi]; exact h.leave hc hi
  ·rw [if_neg hi]
   obtain ⟨_,h2,_⟩:=h.idx_get hc hi
   by_cases hf:S.found ((adj v).getD (S.idx v) 0)=0
   ·rw [if_pos hf]; exact h.enterEdge hc h2 hf
   ·rw [if_neg hf]
    by_cases hp:S.part ((adj v).getD (S.idx v) 0)<0
    ·rw [if_pos hp]
     refine h.edge hc h2 hf (updN S.low v (min (S.low v) (S.found ((adj v).getD (S.idx v) 0)))) (fun c (hcv:c≠v)=>updN_other S.low v _ hcv) ?_ (fun _=>?_) ?_
     ·rw [updN_same]; omega
     ·rw [updN_same]; omega
     ·rw [updN_same]
      by_cases q:S.low v≤S.found ((adj v).getD (S.idx v) 0)
      ·exact .inl (Nat.min_eq_left q)
      ·exact .inr ⟨hp,Nat.min_eq_right (by omega)⟩
    ·rw [if_neg hp]
     exact h.edge hc h2 hf S.low (fun _ _=>rfl) (Nat.le_refl _) (fun q=>absurd q hp) (.inl rfl)
theorem sorted_len (found:Nat→Nat):∀ (l:List Nat) (b:Nat),l.Pairwise (fun a b=>found b<found a)→(∀ x∈l,found x≠0∧found x≤b)→l.length≤b
 | [],b,_,_=>Nat.zero_le b
 | a::l,b,hs,hb=>by
  have ⟨h1,h2⟩:=List.pairwise_cons.1 hs
  have ha:=hb a List.mem_cons_self
  have:=sorted_len found l (found a-1) h2 (fun x hx=>⟨(hb x (List.mem_cons_of_mem _ hx)).1,by have:=h1 x hx; omega⟩)
  simp only [List.length_cons]; omega
theorem TInv.time_le (h:TInv n adj S):S.time≤n:=by have:=h.count; omega
theorem TInv.calls_len (h:TInv n adj S):S.calls.length≤n :=
 Nat.le_trans (sorted_len S.found S.calls S.time h.callsSorted (fun x hx=>⟨(h.callsSeen hx).1,h.leTime x⟩)) h.time_le
theorem TInv.opn_len (h:TInv n adj S):S.opn.length≤n :=
 Nat.le_trans (sorted_len S.found S.opn S.time h.opnSorted (fun x hx=>⟨((h.opnIff x).1 hx).1,h.leTime x⟩)) h.time_le
def phi (n:Nat) (adj:Nat→List Nat) (S:TS):Nat :=
 (S.calls.map fun v=>1+((adj v).length-S.idx v)).sum+wsum (fun v=>2+(adj v).length) S.found n
theorem phi_calls (adj:Nat→List Nat) (l:List Nat) (f g:Nat→Nat) (h:∀ v∈l,f v=g v) :
 (l.map fun v=>1+((adj v).length-f v)).sum=(l.map fun v=>1+((adj v).length-g v)).sum:=by
 congr 1
 exact List.map_congr_left fun v hv=>by rw [h v hv]
theorem TInv.phi_step (h:TInv n adj S) {v:Nat} {r:List Nat} (hc:S.calls=v::r):phi n adj (stepS adj S)<phi n adj S:=by
 have hsrt:=h.callsSorted
 rw [hc] at hsrt
 have hnd:∀ c∈r,c≠v:=fun c hm e=>by have:=(List.pairwise_cons.1 hsrt).1 c hm; subst e; omega
 have hbase:phi n adj S=(1+((adj v).length-S.idx v))+(r.map fun v=>1+((adj v).length-S.idx v)).sum+wsum (fun v=>2+(adj v).length) S.found n:=by
  unfold phi; rw [hc]; simp
 have hbump:∀ lo,phi n adj { S with idx:=updN S.idx v (S.idx v+1),low:=lo }=(1+((adj v).length-(S.idx v+1)))+(r.map fun v=>1+((adj v).length-S.idx v)).sum+wsum (fun v=>2+(adj v).length) S.found n:=fun lo=>by
  unfold phi; rw [hc]; simp only [List.map_cons,List.sum_cons,updN_same]
  rw [phi_calls adj r _ S.idx (fun c hm=>updN_other _ _ _ (hnd c hm))]
 rw [stepS_cons hc]
 by_cases hi:S.idx v=(adj v).length
 ·rw [if_pos hi,hbase]
  unfold leaveS
  split<;>· unfold phi; dsimp only; omega
 ·rw [if_neg hi]
  obtain ⟨h1,h2,h3⟩:=h.idx_get hc hi
  by_cases hf:S.found ((adj v).getD (S.idx v) 0)=0
  ·rw [if_pos hf,hbase]
   generalize (adj v).getD (S.idx v) 0=t at *
   have hw:=wsum_upd (fun v=>2+(adj v).length) S.found t (S.time+1) (by omega) hf n
   rw [if_pos h3] at hw
   have htc:∀ c∈S.calls,c≠t:=fun c hm e=>by have:=(h.callsSeen hm).1; rw [e] at this; exact this hf
   unfold phi enterS
   dsimp only
   rw [hc]
   simp only [List.map_cons,List.sum_cons,updN_same]
   rw [phi_calls adj r _ S.idx (fun c hm=>by rw [updN_other _ _ _ (htc c (by rw [hc]; exact List.mem_cons_of_mem _ hm)),updN_other _ _ _ (hnd c hm)]),
    updN_other _ _ _ (htc v (by rw [hc]; exact List.mem_cons_self)),updN_same]
   omega
  ·rw [if_neg hf]
   by_cases hp:S.part ((adj v).getD (S.idx v) 0)<0
   ·rw [if_pos hp,hbase]; have:=hbump (updN S.low v (min (S.low v) (S.found ((adj v).getD (S.idx v) 0)))); omega
   ·rw [if_neg hp,hbase]; have:=hbump S.low; have e:({ S with idx:=updN S.idx v (S.idx v+1),low:=S.low }:TS)={ S with idx:=updN S.idx v (S.idx v+1) }:=rfl
    rw [e] at this; omega
def initS:TS:=⟨0,fun _=>0,fun _=>0,fun _=>0,[],fun _=>-1,[]⟩
theorem wsum_white (n:Nat):wsum (fun _=>1) (fun _=>0) n=n:=by
 induction n with
 | zero=>rfl
 | succ n ih=>simp [wsum,ih]
theorem TInv.init (n:Nat) (adj:Nat→List Nat) (ha:∀ v,v<n→∀ t∈adj v,t<n):TInv n adj initS:=by
 constructor
 case adjLt=>exact ha
 case count=>simp [initS,wsum_white]
 case C=>intro x hx; simp [initS] at hx
 case P1=>intro x hx; simp [initS] at hx
 case P2=>intro x y hx; simp [initS] at hx
 all_goals simp [initS]
theorem keepsS (adj:Nat→List Nat) (S:TS) {x:Nat} (hx:S.found x≠0):(stepS adj S).found x=S.found x:=by
 cases hc:S.calls with
 | nil=>rw [stepS_nil hc]
 | cons v r =>
  rw [stepS_cons hc]
  split
  ·unfold leaveS; split<;>rfl
  ·split
   ·next hf=>exact updN_other _ _ _ (fun e=>by rw [e] at hx; exact hx hf)
   ·split<;>rfl
theorem TInv.done (h:TInv n adj S) (hc:S.calls=[]) (hall:∀ v,v<n→S.found v≠0) :
 (∀ v,v<n→0≤S.part v)∧∀ x y,x<n→y<n→(S.part x=S.part y↔Goes adj x y∧Goes adj y x):=by
 have hp:∀ v,v<n→0≤S.part v:=fun v hv=>by
  by_cases q:S.part v<0
  ·have:=(h.opnIff v).2 ⟨hall v hv,q⟩; rw [h.opn_nil hc] at this; cases this
  ·omega
 refine ⟨hp,fun x y hx hy=>⟨fun e=>?_,fun ⟨a,b⟩=>h.P2 x y (hp x hx) (hp y hy) a b⟩⟩
 obtain ⟨p,p1,_,p2,p3⟩:=h.P1 x (hp x hx)
 obtain ⟨q,q1,_,q2,q3⟩:=h.P1 y (hp y hy)
 have:p=q:=by omega
 subst this
 exact ⟨p2.trans q3,q2.trans p3⟩
def sPairs:ByteArray:=⟨#[112,97,105,114,115]⟩
def toN (K N u s:Nat):Nat:=(u*K+s)%N
def labN (K:Nat) (T:List Int) (u s:Nat):Int:=T.getD (u*K+s) 0
def rawT (K N:Nat) (T:List Int) (u v s t:Nat):List Nat:=if labN K T u s=labN K T v t then [toN K N u s*N+toN K N v t] else []
def rawS (K N:Nat) (T:List Int) (u v s n:Nat):List Nat:=(List.range n).flatMap fun t=>rawT K N T u v s t
def rawP (K N:Nat) (T:List Int) (u v n:Nat):List Nat:=(List.range n).flatMap fun s=>rawS K N T u v s K
theorem rawS_succ (K N:Nat) (T:List Int) (u v s n:Nat):rawS K N T u v s (n+1)=rawS K N T u v s n++rawT K N T u v s n:=by
 simp [rawS,List.range_succ]
theorem rawP_succ (K N:Nat) (T:List Int) (u v n:Nat):rawP K N T u v (n+1)=rawP K N T u v n++rawS K N T u v n K:=by
 simp [rawP,List.range_succ]
theorem rawT_len (K N:Nat) (T:List Int) (u v s t:Nat):(rawT K N T u v s t).length≤1:=by unfold rawT; split<;>simp
theorem rawS_len (K N:Nat) (T:List Int) (u v s n:Nat):(rawS K N T u v s n).length≤n:=by
 induction n with
 | zero=>simp [rawS]
 | succ n ih=>rw [rawS_succ,List.length_append]; have:=rawT_len K N T u v s n; omega
theorem rawP_len (K N:Nat) (T:List Int) (u v n:Nat):(rawP K N T u v n).length≤n*K:=by
 induction n with
 | zero=>simp [rawP]
 | succ n ih=>rw [rawP_succ,List.length_append,Nat.add_mul]; have:=rawS_len K N T u v n K; omega
def Arr (K N:Nat) (T:List Int) (u v q:Nat):Prop:=∃ s t,s<K∧t<K∧labN K T u s=labN K T v t∧q=toN K N u s*N+toN K N v t
theorem mem_rawP {K N:Nat} {T:List Int} {u v q:Nat}:q∈rawP K N T u v K↔Arr K N T u v q:=by
 unfold rawP rawS rawT Arr
 simp only [List.mem_flatMap,List.mem_range]
 constructor
 ·rintro ⟨s,hs,t,ht,h⟩
  split at h
  ·rename_i e
   exact ⟨s,t,hs,ht,e,by simpa using h⟩
  ·cases h
 ·rintro ⟨s,t,hs,ht,e,h⟩
  exact ⟨s,hs,t,ht,by rw [if_pos e]; simpa using h⟩
theorem toN_lt {K N u s:Nat} (hN:0<N):toN K N u s<N:=Nat.mod_lt _ hN
theorem pair_lt {N a b:Nat} (ha:a<N) (hb:b<N):a*N+b<N*N:=by
 have:=Nat.mul_le_mul_right N (show a+1≤N by omega)
 rw [Nat.add_mul] at this; omega
theorem pair_div {N a b:Nat} (hb:b<N):(a*N+b)/N=a:=div_mk hb
theorem pair_mod {N a b:Nat} (hb:b<N):(a*N+b)%N=b:=mod_mk hb
theorem pair_eq (p N:Nat):p/N*N+p%N=p:=by rw [Nat.mul_comm]; exact Nat.div_add_mod p N
theorem div_lt_of {p N:Nat} (h:p<N*N):p/N<N:=Nat.div_lt_of_lt_mul h
theorem Arr.lt {K N:Nat} {T:List Int} {u v q:Nat} (hN:0<N) (h:Arr K N T u v q):q<N*N:=by
 obtain ⟨s,t,_,_,_,rfl⟩:=h
 exact pair_lt (toN_lt hN) (toN_lt hN)
def pairL (K N:Nat) (T:List Int) (p:Nat):List Nat:=(List.range (N*N)).filter fun q=>decide (q∈rawP K N T (p/N) (p%N) K)
theorem pairL_sorted (K N:Nat) (T:List Int) (p:Nat):(pairL K N T p).Pairwise (·<·):=List.Pairwise.filter _ List.pairwise_lt_range
theorem mem_pairL {K N:Nat} {T:List Int} {p q:Nat} (hN:0<N):q∈pairL K N T p↔Arr K N T (p/N) (p%N) q:=by
 unfold pairL
 rw [List.mem_filter,List.mem_range,decide_eq_true_iff,mem_rawP]
 exact ⟨fun h=>h.2,fun h=>⟨h.lt hN,h⟩⟩
theorem nodup_sub {α:Type} [DecidableEq α]:∀ {l m:List α},l.Nodup→l ⊆ m→l.length≤m.length
 | [],_,_,_=>by simp
 | a::l,m,hn,hs=>by
  obtain ⟨h1,h2⟩:=List.nodup_cons.1 hn
  have ha:=hs List.mem_cons_self
  have:=nodup_sub (l:=l) (m:=m.erase a) h2 (fun b hb=>(List.mem_erase_of_ne (fun e=>h1 (by rw [← e]; exact hb))).2 (hs (List.mem_cons_of_mem _ hb)))
  have hl:=List.length_erase_of_mem ha
  have:=List.length_pos_of_mem ha
  simp only [List.length_cons]; omega
theorem pairL_len (K N:Nat) (T:List Int) (p:Nat):(pairL K N T p).length≤K*K:=by
 have hn:(pairL K N T p).Nodup:=(pairL_sorted K N T p).imp (fun h=>Nat.ne_of_lt h)
 have hs:pairL K N T p ⊆ rawP K N T (p/N) (p%N) K:=fun q hq=>by
  unfold pairL at hq
  simpa using (List.mem_filter.1 hq).2
 exact Nat.le_trans (nodup_sub hn hs) (rawP_len ..)
def nodeAt (K m:Nat) (x:List Int) (i:Nat):Nat:=numW K ((x.drop i).take m)
theorem win_snoc {x:List Int} {i m:Nat} (h:i+m<x.length):(x.drop i).take (m+1)=(x.drop i).take m++[x.getD (i+m) 0]:=by
 rw [List.take_add_one,List.getElem?_drop]
 simp [List.getD,h]
theorem win_cons {x:List Int} {i m:Nat}:((x.drop i).take (m+1)).drop 1=(x.drop (i+1)).take m:=by
 rw [List.drop_take]; simp
theorem syms_drop {K:Int} {x:List Int} (h:Syms K x) (i:Nat):Syms K (x.drop i):=fun y hy=>h y (List.mem_of_mem_drop hy)
theorem syms_take {K:Int} {x:List Int} (h:Syms K x) (i:Nat):Syms K (x.take i):=fun y hy=>h y (List.mem_of_mem_take hy)
theorem syms_at {K:Nat} {x:List Int} (h:Syms K x) {i:Nat} (hi:i<x.length):0≤x.getD i 0∧x.getD i 0<K∧(x.getD i 0).toNat<K:=by
 have:=h (x[i]) (List.getElem_mem hi)
 simp only [List.getD_eq_getElem?_getD,List.getElem?_eq_getElem hi,Option.getD_some]
 omega
theorem win_num {K m:Nat} {x:List Int} {i:Nat} (h:i+m<x.length):numW K ((x.drop i).take (m+1))=nodeAt K m x i*K+(x.getD (i+m) 0).toNat:=by
 rw [win_snoc h,numW_snoc]; rfl
theorem node_lt {K m:Nat} {x:List Int} (hx:Syms K x) {i:Nat} (h:i+m≤x.length):nodeAt K m x i<pw K m:=by
 have:=numW_lt _ (syms_take (syms_drop hx i) m)
 rwa [show ((x.drop i).take m).length=m by simp; omega] at this
theorem node_next {K m:Nat} {x:List Int} (hx:Syms K x) {i:Nat} (h:i+m<x.length):nodeAt K m x (i+1)=toN K (pw K m) (nodeAt K m x i) (x.getD (i+m) 0).toNat:=by
 have hl:((x.drop i).take m).length=m:=by simp; omega
 have hs:Syms K ((x.drop i).take m++[x.getD (i+m) 0]):=by rw [← win_snoc h]; exact syms_take (syms_drop hx i) _
 have:=num_shift hs
 rw [← win_snoc h,win_cons,hl,win_num h] at this
 exact this
theorem img_at {K R:Nat} {T x:List Int} {i:Nat} (h:i+2*R<x.length):(imgP K R T x).getD i 0=labN K T (nodeAt K (2*R) x i) (x.getD (i+2*R) 0).toNat:=by
 rw [imgP_getD _ _ _ _ _ (by omega),win_num h]; rfl
theorem img_eq {K R:Nat} {T x y:List Int} (hl:x.length=y.length):imgP K R T x=imgP K R T y ↔
 ∀ i,i+2*R<x.length→labN K T (nodeAt K (2*R) x i) (x.getD (i+2*R) 0).toNat=labN K T (nodeAt K (2*R) y i) (y.getD (i+2*R) 0).toNat:=by
 constructor
 ·intro h i hi
  rw [← img_at hi,← img_at (by omega),h]
 ·intro h
  refine List.ext_getElem (by rw [imgP_length,imgP_length,hl]) fun i h1 h2=>?_
  rw [imgP_length] at h1 h2
  have:=h i (by omega)
  rw [← img_at (by omega),← img_at (by omega)] at this
  simpa [List.getD_eq_getElem?_getD,imgP_length,h1,h2] using this
theorem wayW_arr {K R:Nat} {T x y:List Int} (hx:Syms K x) (hy:Syms K y) (hl:x.length=y.length) (he:imgP K R T x=imgP K R T y) {i:Nat} (hi:i+2*R<x.length) :
 Arr K (pw K (2*R)) T (nodeAt K (2*R) x i) (nodeAt K (2*R) y i) (nodeAt K (2*R) x (i+1)*pw K (2*R)+nodeAt K (2*R) y (i+1)) :=
 ⟨_,_,(syms_at hx hi).2.2,(syms_at hy (by omega)).2.2,(img_eq hl).1 he i hi,by rw [node_next hx hi,node_next hy (by omega)]⟩
def StepFits (K N:Nat) (T:List Int) (p q:Nat):Prop :=
 toN K N (p/N) (q/N%K)=q/N∧toN K N (p%N) (q%N%K)=q%N∧labN K T (p/N) (q/N%K)=labN K T (p%N) (q%N%K)
instance (K N:Nat) (T:List Int) (p q:Nat):Decidable (StepFits K N T p q):=by unfold StepFits; exact inferInstance
theorem toN_mod {K R u s:Nat} (_hK:1≤K) (hR:1≤R) (hs:s<K):toN K (pw K (2*R)) u s%K=s:=by
 unfold toN
 have:K ∣ pw K (2*R):=⟨pw K (2*R-1),by rw [Nat.mul_comm K,← pw_succ]; congr 1; omega⟩
 rw [Nat.mod_mod_of_dvd _ this,mod_mk hs]
theorem fits_iff {K R:Nat} {T:List Int} {p q:Nat} (hK:1≤K) (hR:1≤R) (hq:q<pw K (2*R)*pw K (2*R)) :
 StepFits K (pw K (2*R)) T p q↔Arr K (pw K (2*R)) T (p/pw K (2*R)) (p%pw K (2*R)) q:=by
 have hN:=pw_pos (K:=K) (2*R) hK
 constructor
 ·rintro ⟨h1,h2,h3⟩
  exact ⟨_,_,Nat.mod_lt _ (by omega),Nat.mod_lt _ (by omega),h3,by rw [h1,h2,pair_eq]⟩
 ·rintro ⟨s,t,hs,ht,e,rfl⟩
  unfold StepFits
  rw [pair_div (toN_lt (by omega)),pair_mod (toN_lt (by omega)),toN_mod hK hR hs,toN_mod hK hR ht]
  exact ⟨rfl,rfl,e⟩
def alongW (K m:Nat) (F:Nat→Nat) (way:List Nat):List Int:=digs K m (F (way.getD 0 0))++(way.drop 1).map fun p=>((F p%K:Nat):Int)
theorem alongW_len (K m:Nat) (F:Nat→Nat) (way:List Nat):(alongW K m F way).length=m+(way.length-1):=by simp [alongW,digs_length]
theorem alongW_syms {K m:Nat} (hK:1≤K) (F:Nat→Nat) (way:List Nat):Syms K (alongW K m F way):=by
 intro y hy
 rcases List.mem_append.1 hy with hy | hy
 ·exact digs_syms hK _ _ y hy
 ·obtain ⟨p,_,rfl⟩:=List.mem_map.1 hy
  have:=Nat.mod_lt (F p) (show 0<K by omega); omega
theorem alongW_get {K m:Nat} {F:Nat→Nat} {way:List Nat} {i:Nat} (h:i+1<way.length):(alongW K m F way).getD (i+m) 0=((F (way.getD (i+1) 0)%K:Nat):Int):=by
 unfold alongW
 rw [List.getD_eq_getElem?_getD,List.getElem?_append_right (by rw [digs_length]; omega),digs_length,Nat.add_sub_cancel,List.getElem?_map,List.getElem?_drop,Nat.add_comm 1 i]
 rw [List.getElem?_eq_getElem h]
 simp [List.getD,h]
theorem along_node {K m:Nat} (hK:1≤K) {F:Nat→Nat} {way:List Nat} (h0:F (way.getD 0 0)<pw K m) (hs:∀ i,i+1<way.length→toN K (pw K m) (F (way.getD i 0)) (F (way.getD (i+1) 0)%K)=F (way.getD (i+1) 0)) :
 ∀ i,i<way.length→nodeAt K m (alongW K m F way) i=F (way.getD i 0)
 | 0,_=>by
  unfold nodeAt alongW
  rw [List.drop_zero,List.take_append_of_le_length (by rw [digs_length]; omega),List.take_of_length_le (by rw [digs_length]; omega),numW_digs hK _ _ h0]
 | i+1,hi=>by
  have ih:=along_node hK h0 hs i (by omega)
  rw [node_next (alongW_syms hK F way) (by rw [alongW_len]; omega),ih,alongW_get hi,Int.toNat_natCast]
  exact hs i hi
theorem along_word {K R:Nat} (hK:1≤K) (hR:1≤R) {F:Nat→Nat} {x:List Int} (hx:Syms K x) (hl:2*R≤x.length) {way:List Nat} (hw:way.length=x.length-2*R+1)
 (hF:∀ i,i<way.length→F (way.getD i 0)=nodeAt K (2*R) x i):alongW K (2*R) F way=x:=by
 have hN:=pw_pos (K:=K) (2*R) hK
 refine List.ext_getElem (by rw [alongW_len]; omega) fun i h1 h2=>?_
 by_cases hi:i<2*R
 ·have e:digs K (2*R) (F (way.getD 0 0))=x.take (2*R):=by
   rw [hF 0 (by omega)]
   have:=digs_numW hK (x.take (2*R)) (syms_take hx _)
   rw [show (x.take (2*R)).length=2*R by simp; omega] at this
   simpa [nodeAt] using this
  simp only [alongW,e]
  rw [List.getElem_append_left (by simp; omega),List.getElem_take]
 ·obtain ⟨j,rfl⟩:∃ j,i=j+2*R:=⟨i-2*R,by omega⟩
  have hj:j+1<way.length:=by omega
  have:=alongW_get (K:=K) (m:=2*R) (F:=F) hj
  rw [hF (j+1) hj,node_next hx (by omega),toN_mod hK hR (syms_at hx (by omega)).2.2] at this
  simp only [List.getD_eq_getElem?_getD,List.getElem?_eq_getElem h1,List.getElem?_eq_getElem h2,Option.getD_some] at this
  rw [this]
  have:=(hx (x[j+2*R]) (List.getElem_mem _)).1
  omega
structure IsTwins (K R:Nat) (T a b:List Int):Prop where
 sa:Syms K a
 sb:Syms K b
 len:a.length=b.length
 ne:a≠b
 low:2*R≤a.length
 front:a.take (2*R)=b.take (2*R)
 back:a.drop (a.length-2*R)=b.drop (b.length-2*R)
 img:imgP K R T a=imgP K R T b
theorem IsTwins.symm {K R:Nat} {T a b:List Int} (h:IsTwins K R T a b):IsTwins K R T b a :=
 ⟨h.sb,h.sa,h.len.symm,h.ne.symm,by rw [← h.len]; exact h.low,h.front.symm,h.back.symm,h.img.symm⟩
theorem IsTwins.context {K R:Nat} {T a b:List Int} (h:IsTwins K R T a b) (u v:List Int):imgP K R T (u++a++v)=imgP K R T (u++b++v):=by
 have hlen:=h.len
 have hlow:=h.low
 have fr:∀ k,k<2*R→a[k]?=b[k]?:=fun k hk=>by
  have:=congrArg (·[k]?) h.front
  simpa [List.getElem?_take,hk] using this
 have bk:∀ k,a.length-2*R≤k→a[k]?=b[k]?:=fun k hk=>by
  have:=congrArg (·[k-(a.length-2*R)]?) h.back
  simp only [List.getElem?_drop] at this
  rw [show a.length-2*R+(k-(a.length-2*R))=k by omega,show b.length-2*R+(k-(a.length-2*R))=k by omega] at this
  exact this
 have at_:∀ (c:List Int) (p:Nat),(u++c++v)[p]?=if p<u.length then u[p]? else if p<u.length+c.length then c[p-u.length]? else v[p-(u.length+c.length)]?:=fun c p=>by
  rw [List.getElem?_append]
  simp only [List.length_append,List.getElem?_append]
  split
  ·split<;>rfl
  ·split
   ·omega
   ·rfl
 refine List.ext_getElem (by rw [imgP_length,imgP_length]; simp [hlen]) fun i h1 h2=>?_
 rw [imgP_length] at h1 h2
 have key:((u++a++v).drop i).take (2*R+1)=((u++b++v).drop i).take (2*R+1)∨(u.length≤i∧i+2*R<u.length+a.length):=by
  by_cases hin:u.length≤i∧i+2*R<u.length+a.length
  ·exact .inr hin
  ·left
   refine List.ext_getElem? fun j=>?_
   rw [List.getElem?_take,List.getElem?_take]
   split
   ·rw [List.getElem?_drop,List.getElem?_drop,at_,at_,← hlen]
    split
    ·rfl
    ·split
     ·by_cases q:i<u.length
      ·exact fr _ (by omega)
      ·exact bk _ (by omega)
     ·rfl
   ·rfl
 have g1:=imgP_getD K R T (u++a++v) i h1
 have g2:=imgP_getD K R T (u++b++v) i h2
 simp only [List.getD_eq_getElem?_getD,List.getElem?_eq_getElem (show i<(imgP K R T (u++a++v)).length by rw [imgP_length]; exact h1),List.getElem?_eq_getElem (show i<(imgP K R T (u++b++v)).length by rw [imgP_length]; exact h2),Option.getD_some] at g1 g2
 rw [g1,g2]
 rcases key with key | ⟨k1,k2⟩
 ·rw [key]
 ·have win:∀ (c:List Int),c.length=a.length→((u++c++v).drop i).take (2*R+1)=(c.drop (i-u.length)).take (2*R+1):=fun c hc=>by
   rw [List.append_assoc,List.drop_append,List.drop_eq_nil_of_le (show u.length≤i by omega),List.nil_append,List.drop_append_of_le_length (by omega),List.take_append_of_le_length (by simp; omega)]
  rw [win a rfl,win b hlen.symm]
  have e:=congrArg (fun l=>l.getD (i-u.length) 0) h.img
  rw [imgP_getD _ _ _ _ _ (by omega),imgP_getD _ _ _ _ _ (by omega)] at e
  simpa [List.getD_eq_getElem?_getD] using e
def Diag (N p:Nat):Prop:=p/N=p%N
instance (N p:Nat):Decidable (Diag N p):=by unfold Diag; exact inferInstance
theorem diag_mk {N u:Nat} (h:u<N):Diag N (u*N+u):=by unfold Diag; rw [pair_div h,pair_mod h]
theorem Diag.eq {N p:Nat} (h:Diag N p):p=p/N*N+p/N:=by
 have:=pair_eq p N
 rw [← h] at this; exact this.symm
structure ApartWay (N:Nat) (adj:Nat→List Nat) (w:List Nat):Prop where
 len:3≤w.length
 low:∀ i,i<w.length→w.getD i 0<N*N
 arr:∀ i,i+1<w.length→w.getD (i+1) 0∈adj (w.getD i 0)
 fst:Diag N (w.getD 0 0)
 lst:Diag N (w.getD (w.length-1) 0)
 inn:∀ i,0<i→i+1<w.length→¬ Diag N (w.getD i 0)
theorem last_diag {N:Nat} {W:Nat→Nat} (h0:Diag N (W 0)):∀ i,¬ Diag N (W i)→∃ k,k<i∧Diag N (W k)∧∀ j,k<j→j≤i→¬ Diag N (W j)
 | 0,h=>absurd h0 h
 | i+1,h=>by
  by_cases q:Diag N (W i)
  ·exact ⟨i,by omega,q,fun j h1 h2=>by obtain rfl:j=i+1:=by omega
                                       exact h⟩
  ·obtain ⟨k,h1,h2,h3⟩:=last_diag h0 i q
   refine ⟨k,by omega,h2,fun j h4 h5=>?_⟩
   by_cases e:j=i+1
   ·subst e; exact h
   ·exact h3 j h4 (by omega)
theorem next_diag {N:Nat} {W:Nat→Nat} {i:Nat} (h:¬ Diag N (W i)):∀ k,Diag N (W (i+k))→∃ m,i<m∧m≤i+k∧Diag N (W m)∧∀ j,i≤j→j<m→¬ Diag N (W j)
 | 0,hk=>absurd hk h
 | k+1,hk=>by
  by_cases q:∃ m,i<m∧m≤i+k∧Diag N (W m)∧∀ j,i≤j→j<m→¬ Diag N (W j)
  ·obtain ⟨m,h1,h2,h3⟩:=q
   exact ⟨m,h1,by omega,h3⟩
  ·refine ⟨i+(k+1),by omega,Nat.le_refl _,hk,fun j h1 h2 hd=>q ?_⟩
   obtain ⟨d,rfl⟩:∃ d,j=i+d:=⟨j-i,by omega⟩
   obtain ⟨m,m1,m2,m3⟩:=next_diag h d hd
   exact ⟨m,m1,by omega,m3⟩
theorem list_range_get (f:Nat→Nat) (n i:Nat) (h:i<n):((List.range n).map f).getD i 0=f i:=by simp [List.getD,h]
theorem IsTwins.way {K R:Nat} {T a b:List Int} (hK:1≤K) (hR:1≤R) (h:IsTwins K R T a b):∃ w,ApartWay (pw K (2*R)) (pairL K (pw K (2*R)) T) w∧2*R+(w.length-1)≤a.length:=by
 have hlen:=h.len
 have hlow:=h.low
 have hN:=pw_pos (K:=K) (2*R) hK
 have na:∀ i,i+2*R≤a.length→nodeAt K (2*R) a i<pw K (2*R):=fun i hi=>node_lt h.sa hi
 have nb:∀ i,i+2*R≤a.length→nodeAt K (2*R) b i<pw K (2*R):=fun i hi=>node_lt h.sb (by omega)
 obtain ⟨W,hW⟩:∃ W:Nat→Nat,W=fun i=>nodeAt K (2*R) a i*pw K (2*R)+nodeAt K (2*R) b i:=⟨_,rfl⟩
 have hWi:∀ i,W i=nodeAt K (2*R) a i*pw K (2*R)+nodeAt K (2*R) b i:=fun i=>by rw [hW]
 have dg:∀ i,i+2*R≤a.length→(Diag (pw K (2*R)) (W i)↔nodeAt K (2*R) a i=nodeAt K (2*R) b i):=fun i hi=>by
  unfold Diag; rw [hWi,pair_div (nb i hi),pair_mod (nb i hi)]
 have d0:Diag (pw K (2*R)) (W 0):=by
  rw [dg 0 (by omega)]; unfold nodeAt; rw [List.drop_zero,List.drop_zero,h.front]
 obtain ⟨n,hn⟩:∃ n,a.length=n+2*R:=⟨a.length-2*R,by omega⟩
 have dn:Diag (pw K (2*R)) (W n):=by
  rw [dg n (by omega)]; unfold nodeAt
  have:=h.back
  rw [← hlen,hn,Nat.add_sub_cancel] at this
  rw [this]
 have hex:∃ i,i≤n∧¬ Diag (pw K (2*R)) (W i):=by
  apply Classical.byContradiction
  intro hno
  have hall:∀ i,i≤n→nodeAt K (2*R) a i=nodeAt K (2*R) b i:=fun i hi=>(dg i (by omega)).1 (Classical.byContradiction fun q=>hno ⟨i,hi,q⟩)
  apply h.ne
  have hget:∀ i,i<n+1→((List.range (n+1)).map (nodeAt K (2*R) a)).getD i 0=nodeAt K (2*R) a i:=fun i hi=>list_range_get _ _ _ hi
  have e1:=along_word (F:=id) (way:=(List.range (n+1)).map (nodeAt K (2*R) a)) hK hR h.sa h.low (by simp; omega) (fun i hi=>hget i (by simpa using hi))
  have e2:=along_word (F:=id) (way:=(List.range (n+1)).map (nodeAt K (2*R) a)) hK hR h.sb (by omega) (by simp; omega) (fun i hi=>by
   have hi:i<n+1:=by simpa using hi
   show ((List.range (n+1)).map (nodeAt K (2*R) a)).getD i 0=_
   rw [hget i hi,hall i (by omega)])
  rw [← e1,e2]
 obtain ⟨i,hi,hnd⟩:=hex
 obtain ⟨k,k1,k2,k3⟩:=last_diag d0 i hnd
 obtain ⟨m,m1,m2,m3,m4⟩:=next_diag hnd (n-i) (by rw [show i+(n-i)=n by omega]; exact dn)
 have hget:∀ j,j<m-k+1→((List.range (m-k+1)).map fun j=>W (k+j)).getD j 0=W (k+j):=fun j hj=>list_range_get _ _ _ hj
 refine ⟨(List.range (m-k+1)).map fun j=>W (k+j),⟨by simp; omega,fun j hj=>?_,fun j hj=>?_,?_,?_,fun j j0 j1=>?_⟩,by simp; omega⟩
 ·rw [hget j (by simpa using hj),hWi]
  have:j<m-k+1:=by simpa using hj
  exact pair_lt (na _ (by omega)) (nb _ (by omega))
 ·have hj:j+1<m-k+1:=by simpa using hj
  rw [hget j (by omega),hget (j+1) hj,mem_pairL (by omega),hWi,hWi,pair_div (nb _ (by omega)),pair_mod (nb _ (by omega)),← Nat.add_assoc]
  exact wayW_arr h.sa h.sb hlen h.img (by omega)
 ·rw [hget 0 (by omega)]; exact k2
 ·rw [List.length_map,List.length_range,Nat.add_sub_cancel,hget _ (by omega),show k+(m-k)=m by omega]; exact m3
 ·have hj:j+1<m-k+1:=by simpa using j1
  rw [hget j (by omega)]
  by_cases q:k+j≤i
  ·exact k3 _ (by omega) q
  ·exact m4 _ (by omega) (by omega)
theorem ways_words {K R:Nat} {T:List Int} {w:List Nat} (hK:1≤K) (hR:1≤R) (hw:1≤w.length) (low:∀ i,i<w.length→w.getD i 0<pw K (2*R)*pw K (2*R))
 (arr:∀ i,i+1<w.length→w.getD (i+1) 0∈pairL K (pw K (2*R)) T (w.getD i 0)) :
 (∀ i,i<w.length→nodeAt K (2*R) (alongW K (2*R) (·/pw K (2*R)) w) i=w.getD i 0/pw K (2*R)∧nodeAt K (2*R) (alongW K (2*R) (·%pw K (2*R)) w) i=w.getD i 0%pw K (2*R)) ∧
 imgP K R T (alongW K (2*R) (·/pw K (2*R)) w)=imgP K R T (alongW K (2*R) (·%pw K (2*R)) w):=by
 have hN:=pw_pos (K:=K) (2*R) hK
 have fits:∀ i,i+1<w.length→StepFits K (pw K (2*R)) T (w.getD i 0) (w.getD (i+1) 0):=fun i hi =>
  (fits_iff hK hR (low _ hi)).2 ((mem_pairL (by omega)).1 (arr i hi))
 have n1:=along_node (K:=K) (m:=2*R) (F:=(·/pw K (2*R))) (way:=w) hK (div_lt_of (low 0 (by omega))) (fun i hi=>(fits i hi).1)
 have n2:=along_node (K:=K) (m:=2*R) (F:=(·%pw K (2*R))) (way:=w) hK (Nat.mod_lt _ (by omega)) (fun i hi=>(fits i hi).2.1)
 refine ⟨fun i hi=>⟨n1 i hi,n2 i hi⟩,?_⟩
 rw [img_eq (by rw [alongW_len,alongW_len])]
 intro i hi
 rw [alongW_len] at hi
 rw [n1 i (by omega),n2 i (by omega),alongW_get (by omega),alongW_get (by omega),Int.toNat_natCast,Int.toNat_natCast]
 exact (fits i (by omega)).2.2
theorem ApartWay.twins {K R:Nat} {T:List Int} {w:List Nat} (hK:1≤K) (hR:1≤R) (h:ApartWay (pw K (2*R)) (pairL K (pw K (2*R)) T) w) :
 IsTwins K R T (alongW K (2*R) (·/pw K (2*R)) w) (alongW K (2*R) (·%pw K (2*R)) w):=by
 have hN:=pw_pos (K:=K) (2*R) hK
 have h3:=h.len
 obtain ⟨hn,hi⟩:=ways_words hK hR (by omega) h.low h.arr
 have la:=alongW_len K (2*R) (·/pw K (2*R)) w
 have lb:=alongW_len K (2*R) (·%pw K (2*R)) w
 have sa:=alongW_syms (m:=2*R) hK (·/pw K (2*R)) w
 have sb:=alongW_syms (m:=2*R) hK (·%pw K (2*R)) w
 generalize alongW K (2*R) (·/pw K (2*R)) w=a at *
 generalize alongW K (2*R) (·%pw K (2*R)) w=b at *
 have same:∀ i,i<w.length→Diag (pw K (2*R)) (w.getD i 0)→(a.drop i).take (2*R)=(b.drop i).take (2*R):=fun i hi hd=>by
  obtain ⟨e1,e2⟩:=hn i hi
  have q1:=digs_numW hK _ (syms_take (syms_drop sa i) (2*R))
  have q2:=digs_numW hK _ (syms_take (syms_drop sb i) (2*R))
  rw [show ((a.drop i).take (2*R)).length=2*R by simp; omega] at q1
  rw [show ((b.drop i).take (2*R)).length=2*R by simp; omega] at q2
  rw [← q1,← q2]
  show digs K (2*R) (nodeAt K (2*R) a i)=digs K (2*R) (nodeAt K (2*R) b i)
  rw [e1,e2,hd]
 refine ⟨sa,sb,by omega,fun e=>?_,by omega,?_,?_,hi⟩
 ·subst e
  obtain ⟨e1,e2⟩:=hn 1 (by omega)
  exact h.inn 1 (by omega) (by omega) (e1.symm.trans e2)
 ·have:=same 0 (by omega) h.fst
  simpa using this
 ·have:=same (w.length-1) (by omega) h.lst
  rw [List.take_of_length_le (by simp; omega),List.take_of_length_le (by simp; omega)] at this
  rw [show a.length-2*R=w.length-1 by omega,show b.length-2*R=w.length-1 by omega]
  exact this
def TwinLen (K R:Nat) (T:List Int) (n:Nat):Prop:=(∃ a b,IsTwins K R T a b∧a.length=n)∧∀ a b,IsTwins K R T a b→n≤a.length
theorem way_twinLen {K R:Nat} {T:List Int} {w:List Nat} (hK:1≤K) (hR:1≤R) (h:ApartWay (pw K (2*R)) (pairL K (pw K (2*R)) T) w)
 (hm:∀ u,ApartWay (pw K (2*R)) (pairL K (pw K (2*R)) T) u→w.length≤u.length):TwinLen K R T (2*R+(w.length-1)):=by
 refine ⟨⟨_,_,h.twins hK hR,alongW_len ..⟩,fun a b hab=>?_⟩
 obtain ⟨u,hu,hl⟩:=hab.way hK hR
 have:=hm u hu
 omega
theorem no_twins {K R:Nat} {T:List Int} (hK:1≤K) (hR:1≤R) (hm:∀ u,¬ ApartWay (pw K (2*R)) (pairL K (pw K (2*R)) T) u) (a b:List Int):¬ IsTwins K R T a b:=fun h=>by
 obtain ⟨u,hu,_⟩:=h.way hK hR
 exact hm u hu
theorem img_mir {K R:Nat} {T:List Int} (h:RuleOk K R T) {x:List Int} (hx:Syms K x):imgP K R (mirT K (2*R+1) T) x=(imgP K R T x.reverse).reverse:=by
 refine List.ext_getElem (by simp [imgP_length]) fun i h1 h2=>?_
 have h1':=h1
 rw [imgP_length] at h1'
 have e1:=imgP_getD K R (mirT K (2*R+1) T) x i h1'
 rw [List.getD_eq_getElem?_getD,List.getElem?_eq_getElem h1,Option.getD_some] at e1
 rw [e1,List.getElem_reverse]
 have hj:(imgP K R T x.reverse).length-1-i<x.reverse.length-2*R:=by simp only [imgP_length,List.length_reverse]; omega
 have e2:=imgP_getD K R T x.reverse _ hj
 rw [List.getD_eq_getElem?_getD,List.getElem?_eq_getElem (show (imgP K R T x.reverse).length-1-i<(imgP K R T x.reverse).length by rw [imgP_length] at hj ⊢; exact hj),Option.getD_some] at e2
 rw [e2,mirT_at h.k1 h.len _ (syms_take (syms_drop hx _) _) (by simp; omega)]
 congr 2
 rw [imgP_length,List.length_reverse]
 refine List.ext_getElem (by simp; omega) fun j a b=>?_
 simp only [List.length_reverse,List.length_take,List.length_drop] at a b
 simp only [List.getElem_reverse,List.getElem_take,List.getElem_drop,List.length_take,List.length_drop]
 congr 1
 omega
theorem twins_rev {K R:Nat} {T T':List Int} (hi:∀ x,Syms K x→imgP K R T' x=(imgP K R T x.reverse).reverse) {a b:List Int} (t:IsTwins K R T' a b):IsTwins K R T a.reverse b.reverse:=by
 have hl:=t.len
 have hw:=t.low
 refine ⟨syms_rev t.sa,syms_rev t.sb,by simpa using hl,fun e=>t.ne (List.reverse_inj.1 e),by simpa using hw,?_,?_,?_⟩
 ·rw [List.take_reverse,List.take_reverse,t.back]
 ·rw [List.drop_reverse,List.drop_reverse,List.length_reverse,List.length_reverse,show a.length-(a.length-2*R)=2*R by omega,show b.length-(b.length-2*R)=2*R by omega,t.front]
 ·have:=t.img
  rw [hi a t.sa,hi b t.sb] at this
  exact List.reverse_inj.1 this
theorem twins_mir {K R:Nat} {T:List Int} (h:RuleOk K R T) {a b:List Int}:IsTwins K R (mirT K (2*R+1) T) a b↔IsTwins K R T a.reverse b.reverse:=by
 constructor
 ·exact twins_rev fun x hx=>img_mir h hx
 ·intro t
  have:=twins_rev (T:=mirT K (2*R+1) T) (fun x hx=>by rw [img_mir h (syms_rev hx),List.reverse_reverse,List.reverse_reverse]) t
  rwa [List.reverse_reverse,List.reverse_reverse] at this
theorem mir_twins {K R:Nat} {T:List Int} (h:RuleOk K R T) {a b:List Int} (t:IsTwins K R T a b):IsTwins K R (mirT K (2*R+1) T) a.reverse b.reverse:=(twins_mir h).2 (by rwa [List.reverse_reverse,List.reverse_reverse])
def wideT (K R d:Nat) (T:List Int):List Int:=(List.range (pw K (2*(R+d)+1))).map fun i=>T.getD (numW K (((digs K (2*(R+d)+1) i).drop d).take (2*R+1))) 0
theorem wideT_length (K R d:Nat) (T:List Int):(wideT K R d T).length=pw K (2*(R+d)+1):=by simp [wideT]
theorem wideT_ok {K R d:Nat} {T:List Int} (h:RuleOk K R T) (hd:R+d≤3):RuleOk K (R+d) (wideT K R d T) :=
 ⟨h.k1,h.k4,hd,wideT_length ..,fun y hy=>by
   obtain ⟨i,_,rfl⟩:=List.mem_map.1 hy
   exact h.syms.getD (by have:=h.k1; omega) _⟩
theorem wideT_at {K R d:Nat} {T:List Int} (hK:1≤K) (w:List Int) (hw:Syms K w) (hl:w.length=2*(R+d)+1):(wideT K R d T).getD (numW K w) 0=T.getD (numW K ((w.drop d).take (2*R+1))) 0:=by
 have hlt:=numW_lt w hw
 rw [hl] at hlt
 have:(wideT K R d T).getD (numW K w) 0=T.getD (numW K (((digs K (2*(R+d)+1) (numW K w)).drop d).take (2*R+1))) 0:=by simp [wideT,List.getD,hlt]
 rw [this,← hl,digs_numW hK w hw]
theorem img_wide {K R d:Nat} {T:List Int} (hK:1≤K) (x:List Int) (hx:Syms K x):imgP K (R+d) (wideT K R d T) x=imgP K R T ((x.drop d).take (x.length-2*d)):=by
 refine List.ext_getElem (by rw [imgP_length,imgP_length]; simp; omega) fun i h1 h2=>?_
 have e1:=imgP_getD K (R+d) (wideT K R d T) x i (by rw [imgP_length] at h1; exact h1)
 have e2:=imgP_getD K R T ((x.drop d).take (x.length-2*d)) i (by rw [imgP_length] at h2; exact h2)
 rw [imgP_length] at h1
 rw [List.getD_eq_getElem?_getD,List.getElem?_eq_getElem (by rw [imgP_length]; exact h1),Option.getD_some] at e1
 rw [List.getD_eq_getElem?_getD,List.getElem?_eq_getElem h2,Option.getD_some] at e2
 rw [e1,e2,wideT_at hK _ (syms_take (syms_drop hx i) _) (by simp; omega)]
 congr 2
 rw [List.drop_take,List.take_take,List.drop_drop,List.drop_take,List.drop_drop,List.take_take,Nat.add_comm d i]
 congr 1
 omega
theorem sub_get {x:List Int} {i m j:Nat} (h:j<m):((x.drop i).take m).getD j 0=x.getD (i+j) 0:=by
 simp [List.getD,h,List.getElem?_drop]
theorem ext_getD {a b:List Int} (hl:a.length=b.length) (h:∀ t,t<a.length→a.getD t 0=b.getD t 0):a=b :=
 List.ext_getElem hl fun t h1 h2=>by have:=h t h1; simpa [List.getD,h1,h2] using this
theorem ne_at {a b:List Int} (hl:a.length=b.length) (hne:a≠b):∃ j,j<a.length∧a.getD j 0≠b.getD j 0:=by
 apply Classical.byContradiction
 intro h
 exact hne (ext_getD hl fun t ht=>Classical.byContradiction fun q=>h ⟨t,ht,q⟩)
theorem img_cut {K R:Nat} {T x:List Int} {i m:Nat} (h:i+m≤x.length):imgP K R T ((x.drop i).take m)=((imgP K R T x).drop i).take (m-2*R):=by
 have hl:((x.drop i).take m).length=m:=by simp; omega
 refine ext_getD (by simp only [imgP_length,hl,List.length_take,List.length_drop]; omega) fun t ht=>?_
 rw [imgP_length,hl] at ht
 rw [imgP_getD _ _ _ _ _ (by rw [hl]; exact ht),sub_get ht,imgP_getD _ _ _ _ _ (by omega)]
 congr 2
 rw [List.drop_take,List.take_take,List.drop_drop,Nat.min_eq_left (by omega)]
def Split (K R:Nat) (T:List Int) (n:Nat):Prop:=∃ x y,Syms K x∧Syms K y∧x.length=2*n+1∧y.length=2*n+1∧x.getD n 0≠y.getD n 0∧imgP K R T x=imgP K R T y
def NotOne (K R:Nat) (T:List Int):Prop:=∀ n,Split K R T n
theorem split_of {K R:Nat} {T x y:List Int} (sx:Syms K x) (sy:Syms K y) (hl:x.length=y.length) {j n:Nat} (h1:n≤j) (h2:j+n<x.length) (hne:x.getD j 0≠y.getD j 0)
 (hi:imgP K R T ((x.drop (j-n)).take (2*n+1))=imgP K R T ((y.drop (j-n)).take (2*n+1))):Split K R T n :=
 ⟨_,_,syms_take (syms_drop sx _) _,syms_take (syms_drop sy _) _,by simp; omega,by simp; omega,by
   rw [sub_get (by omega),sub_get (by omega),show j-n+n=j by omega]; exact hne,hi⟩
theorem split_img {K R:Nat} {T x y:List Int} (sx:Syms K x) (sy:Syms K y) (hl:x.length=y.length) {j n:Nat} (h1:n≤j) (h2:j+n<x.length) (hne:x.getD j 0≠y.getD j 0)
 (hi:imgP K R T x=imgP K R T y):Split K R T n :=
 split_of sx sy hl h1 h2 hne (by rw [img_cut (by omega),img_cut (by omega),hi])
theorem Split.mono {K R:Nat} {T:List Int} {n m:Nat} (h:Split K R T n) (hm:m≤n):Split K R T m:=by
 obtain ⟨x,y,sx,sy,lx,ly,hne,hi⟩:=h
 exact split_img sx sy (by omega) (j:=n) hm (by omega) hne hi
theorem pad_get {z a v:List Int} {n j:Nat} (hz:z.length=n) (hj:j<a.length):(z++a++v).getD (n+j) 0=a.getD j 0:=by
 subst hz
 rw [List.append_assoc,List.getD_eq_getElem?_getD,List.getElem?_append_right (by omega),Nat.add_sub_cancel_left,List.getElem?_append_left hj,← List.getD_eq_getElem?_getD]
theorem syms_pad {K:Nat} (hK:1≤K) {a:List Int} (h:Syms K a) (n m:Nat):Syms K (List.replicate n 0++a++List.replicate m 0):=by
 intro y hy
 rcases List.mem_append.1 hy with hy | hy
 ·rcases List.mem_append.1 hy with hy | hy
  ·rw [List.eq_of_mem_replicate hy]; omega
  ·exact h y hy
 ·rw [List.eq_of_mem_replicate hy]; omega
theorem IsTwins.notOne {K R:Nat} {T a b:List Int} (hK:1≤K) (h:IsTwins K R T a b):NotOne K R T:=fun n=>by
 obtain ⟨j,hj,hne⟩:=ne_at h.len h.ne
 have hl:=h.len
 refine split_img (j:=n+j) (syms_pad hK h.sa n n) (syms_pad hK h.sb n n) (by simp [hl]) (by omega) (by simp; omega) ?_ (h.context _ _)
 rw [pad_get (by simp) hj,pad_get (by simp) (by omega)]
 exact hne
theorem notOne_wide {K R d:Nat} {T:List Int} (hK:1≤K):NotOne K (R+d) (wideT K R d T)↔NotOne K R T:=by
 constructor
 ·intro h n
  obtain ⟨x,y,sx,sy,lx,ly,hne,e⟩:=h (n+d)
  rw [img_wide hK x sx,img_wide hK y sy] at e
  refine ⟨_,_,syms_take (syms_drop sx d) _,syms_take (syms_drop sy d) _,by simp; omega,by simp; omega,?_,e⟩
  rw [sub_get (by omega),sub_get (by omega),Nat.add_comm d n]
  exact hne
 ·intro h n
  obtain ⟨x,y,sx,sy,lx,ly,hne,e⟩:=h n
  have mid:∀ u:List Int,((List.replicate d (0:Int)++u++List.replicate d 0).drop d).take ((List.replicate d (0:Int)++u++List.replicate d 0).length-2*d)=u:=fun u=>by
   rw [List.append_assoc,List.drop_left' (by simp),List.take_left' (by simp; omega)]
  refine Split.mono (n:=n+d) ⟨_,_,syms_pad hK sx d d,syms_pad hK sy d d,by simp; omega,by simp; omega,?_,?_⟩ (by omega)
  ·rw [Nat.add_comm n d,pad_get (by simp) (by omega),pad_get (by simp) (by omega)]
   exact hne
  ·rw [img_wide hK _ (syms_pad hK sx d d),img_wide hK _ (syms_pad hK sy d d),mid,mid,e]
def Onto (K R:Nat) (T:List Int):Prop:=∀ y,Syms K y→∃ x,Syms K x∧x.length=y.length+2*R∧imgP K R T x=y
def wordsL (K m:Nat):List (List Int):=(List.range (pw K m)).map (digs K m)
theorem wordsL_len (K m:Nat):(wordsL K m).length=pw K m:=by simp [wordsL]
theorem mem_wordsL {K m:Nat} (hK:1≤K) {x:List Int}:x∈wordsL K m↔Syms K x∧x.length=m:=by
 unfold wordsL
 rw [List.mem_map]
 constructor
 ·rintro ⟨i,_,rfl⟩
  exact ⟨digs_syms hK _ _,digs_length ..⟩
 ·rintro ⟨hx,rfl⟩
  exact ⟨numW K x,List.mem_range.2 (numW_lt x hx),digs_numW hK x hx⟩
theorem wordsL_nodup {K m:Nat} (hK:1≤K):(wordsL K m).Nodup:=by
 unfold wordsL
 refine List.pairwise_map.2 (List.Pairwise.imp_of_mem ?_ List.nodup_range)
 intro a b ha hb hne e
 have h:=congrArg (numW K) e
 rw [numW_digs hK _ _ (List.mem_range.1 ha),numW_digs hK _ _ (List.mem_range.1 hb)] at h
 exact hne h
theorem pw_mul (K m k:Nat):pw K (k*m)=pw K m ^ k:=by
 induction k with
 | zero=>simp [pw_zero]
 | succ k ih=>rw [Nat.succ_mul,pw_add,ih,Nat.pow_succ]
theorem bernoulli (Q k:Nat):Q ^ (k+1)+(k+1)*Q ^ k≤(Q+1) ^ (k+1):=by
 induction k with
 | zero=>simp
 | succ k ih =>
  have h1:=Nat.mul_le_mul_right (Q+1) ih
  rw [← Nat.pow_succ] at h1
  refine Nat.le_trans ?_ h1
  have e1:Q ^ (k+1+1)=Q ^ (k+1)*Q:=Nat.pow_succ ..
  have e2:Q ^ (k+1)=Q ^ k*Q:=Nat.pow_succ ..
  have e3:(Q ^ (k+1)+(k+1)*Q ^ k)*(Q+1)=Q ^ (k+1)*Q+Q ^ (k+1)+((k+1)*(Q ^ k*Q)+(k+1)*Q ^ k):=by
   rw [Nat.add_mul,Nat.mul_add,Nat.mul_one,Nat.mul_add,Nat.mul_one,Nat.mul_assoc]
  rw [e3,e1,← e2,Nat.add_mul (k+1) 1,Nat.one_mul]
  omega
theorem few (P C:Nat) (hP:1≤P):∃ k,(P-1) ^ k*C<P ^ k:=by
 obtain ⟨Q,rfl⟩:∃ Q,P=Q+1:=⟨P-1,by omega⟩
 rw [Nat.add_sub_cancel]
 refine ⟨C*Q+1,Nat.lt_of_lt_of_le ?_ (bernoulli Q (C*Q))⟩
 rcases Nat.eq_zero_or_pos Q with rfl | hQ
 ·simp
 ·have hp:0<Q ^ (C*Q):=Nat.pow_pos hQ
  have e:Q ^ (C*Q+1)*C=Q ^ (C*Q)*(C*Q):=by rw [Nat.pow_succ,Nat.mul_assoc,Nat.mul_comm Q C]
  have e2:(C*Q+1)*Q ^ (C*Q)=Q ^ (C*Q)*(C*Q)+Q ^ (C*Q):=by rw [Nat.add_mul,Nat.one_mul,Nat.mul_comm]
  rw [e,e2]
  omega
def avoid (K m c:Nat) (o:List Int):Nat→List (List Int)
 | 0=>wordsL K c
 | k+1=>((wordsL K m).erase o).flatMap fun b=>(avoid K m c o k).map (b++·)
theorem flatMap_len {α β:Type} (f:α→List β) (n:Nat):∀ (l:List α),(∀ a∈l,(f a).length=n)→(l.flatMap f).length=l.length*n
 | [],_=>by simp
 | a::l,h=>by
  rw [List.flatMap_cons,List.length_append,h a (by simp),flatMap_len f n l fun b hb=>h b (by simp [hb]),List.length_cons,Nat.succ_mul,Nat.add_comm]
theorem avoid_len {K m c:Nat} {o:List Int} (ho:o∈wordsL K m):∀ k,(avoid K m c o k).length=(pw K m-1) ^ k*pw K c
 | 0=>by simp [avoid,wordsL_len]
 | k+1=>by
  rw [avoid,flatMap_len _ ((pw K m-1) ^ k*pw K c) _ fun b _=>by rw [List.length_map,avoid_len ho k],List.length_erase_of_mem ho,wordsL_len,← Nat.mul_assoc,Nat.mul_comm (pw K m-1),← Nat.pow_succ]
theorem mem_avoid {K m c:Nat} (hK:1≤K) {o:List Int}:∀ (k:Nat) (y:List Int),Syms K y→y.length=k*m+c→(∀ i,i<k→(y.drop (i*m)).take m≠o)→y∈avoid K m c o k
 | 0,y,hy,hl,_=>(mem_wordsL hK).2 ⟨hy,by omega⟩
 | k+1,y,hy,hl,h=>by
  rw [avoid,List.mem_flatMap]
  rw [Nat.succ_mul] at hl
  refine ⟨y.take m,(List.mem_erase_of_ne (by simpa using h 0 (by omega))).2 ((mem_wordsL hK).2 ⟨syms_take hy _,by simp; omega⟩),List.mem_map.2 ⟨y.drop m,mem_avoid hK k _ (syms_drop hy _) (by simp; omega) fun i hi=>?_,List.take_append_drop ..⟩⟩
  have:=h (i+1) (by omega)
  rwa [Nat.succ_mul,Nat.add_comm,← List.drop_drop] at this
theorem onto_of_no_twins {K R:Nat} {T:List Int} (h:RuleOk K R T) (hno:∀ a b,¬ IsTwins K R T a b):Onto K R T:=by
 intro o so
 apply Classical.byContradiction
 intro hor
 have hK:=h.k1
 obtain ⟨k,hk⟩:=few (pw K o.length) (pw K (2*R)) (pw_pos _ hK)
 have hom:o∈wordsL K o.length:=(mem_wordsL hK).2 ⟨so,rfl⟩
 have hsub:(wordsL K (k*o.length)).map (fun u=>imgP K R T (List.replicate (2*R) 0++u++List.replicate (2*R) 0)) ⊆ avoid K o.length (2*R) o k:=by
  intro y hy
  obtain ⟨u,hu,rfl⟩:=List.mem_map.1 hy
  obtain ⟨su,lu⟩:=(mem_wordsL hK).1 hu
  have hpl:(List.replicate (2*R) (0:Int)++u++List.replicate (2*R) 0).length=k*o.length+4*R:=by simp only [List.length_append,List.length_replicate,lu]; omega
  refine mem_avoid hK k _ (imgP_syms hK h.syms) (by rw [imgP_length,hpl]; omega) fun i hi e=>hor ?_
  have him:i*o.length+o.length≤k*o.length:=by rw [← Nat.succ_mul]; exact Nat.mul_le_mul_right _ hi
  have hc:=img_cut (K:=K) (R:=R) (T:=T) (x:=List.replicate (2*R) (0:Int)++u++List.replicate (2*R) 0) (i:=i*o.length) (m:=o.length+2*R) (by rw [hpl]; omega)
  rw [Nat.add_sub_cancel,e] at hc
  exact ⟨_,syms_take (syms_drop (syms_pad hK su _ _) _) _,by rw [List.length_take,List.length_drop,hpl]; omega,hc⟩
 have hnd:((wordsL K (k*o.length)).map (fun u=>imgP K R T (List.replicate (2*R) 0++u++List.replicate (2*R) 0))).Nodup:=by
  refine List.pairwise_map.2 (List.Pairwise.imp_of_mem ?_ (wordsL_nodup hK))
  intro u v hu hv hne e
  obtain ⟨su,lu⟩:=(mem_wordsL hK).1 hu
  obtain ⟨sv,lv⟩:=(mem_wordsL hK).1 hv
  refine hno _ _ ⟨syms_pad hK su _ _,syms_pad hK sv _ _,by simp [lu,lv],fun e=>hne ?_,by simp only [List.length_append,List.length_replicate]; omega,?_,?_,e⟩
  ·rw [List.append_assoc,List.append_assoc] at e
   exact List.append_cancel_right (List.append_cancel_left e)
  ·rw [List.append_assoc,List.append_assoc,List.take_left' (by simp),List.take_left' (by simp)]
  ·rw [List.drop_left' (by simp only [List.length_append,List.length_replicate]; omega),List.drop_left' (by simp only [List.length_append,List.length_replicate]; omega)]
 have:=nodup_sub hnd hsub
 rw [List.length_map,wordsL_len,avoid_len hom,pw_mul] at this
 omega
def behB (K N:Nat) (T:List Int) (l:List Bool) (s:Int):List Bool :=
 (List.range N).map fun v=>(List.range N).any fun u=>l.getD u false&&(List.range K).any fun c=>decide ((u*K+c)%N=v)&&decide (T.getD (u*K+c) 0=s)
theorem behB_len (K N:Nat) (T:List Int) (l:List Bool) (s:Int):(behB K N T l s).length=N:=by simp [behB]
theorem behB_iff {K N:Nat} {T:List Int} {l:List Bool} {s:Int} {v:Nat} (hv:v<N) :
 (behB K N T l s).getD v false=true↔∃ u,u<N∧l.getD u false=true∧∃ c,c<K∧(u*K+c)%N=v∧T.getD (u*K+c) 0=s:=by
 have e:(behB K N T l s).getD v false=(List.range N).any fun u=>l.getD u false&&(List.range K).any fun c=>decide ((u*K+c)%N=v)&&decide (T.getD (u*K+c) 0=s):=by
  unfold behB; simp [List.getD,hv]
 rw [e,List.any_eq_true]
 constructor
 ·rintro ⟨u,hu,h⟩
  rw [Bool.and_eq_true,List.any_eq_true] at h
  obtain ⟨h1,c,hc,h2⟩:=h
  rw [Bool.and_eq_true,decide_eq_true_iff,decide_eq_true_iff] at h2
  exact ⟨u,List.mem_range.1 hu,h1,c,List.mem_range.1 hc,h2.1,h2.2⟩
 ·rintro ⟨u,hu,h1,c,hc,h2,h3⟩
  refine ⟨u,List.mem_range.2 hu,?_⟩
  rw [Bool.and_eq_true,List.any_eq_true]
  refine ⟨h1,c,List.mem_range.2 hc,?_⟩
  rw [Bool.and_eq_true,decide_eq_true_iff,decide_eq_true_iff]
  exact ⟨h2,h3⟩
def reachB (K N:Nat) (T:List Int) (y:List Int):List Bool:=y.foldl (behB K N T) (List.replicate N true)
theorem reachB_nil (K N:Nat) (T:List Int):reachB K N T []=List.replicate N true:=rfl
theorem reachB_snoc (K N:Nat) (T:List Int) (y:List Int) (s:Int):reachB K N T (y++[s])=behB K N T (reachB K N T y) s:=by simp [reachB]
theorem reachB_len (K N:Nat) (T:List Int) (y:List Int):(reachB K N T y).length=N:=by
 cases h:y.reverse with
 | nil=>rw [List.reverse_eq_nil_iff.1 h]; simp [reachB]
 | cons a l =>
  have:y=l.reverse++[a]:=by rw [← List.reverse_reverse y,h]; simp
  rw [this,reachB_snoc,behB_len]
theorem snoc_indI {P:List Int→Prop} (h0:P []) (h1:∀ y s,P y→P (y++[s])) (y:List Int):P y:=by
 generalize hn:y.length=n
 induction n generalizing y with
 | zero=>rw [List.eq_nil_of_length_eq_zero hn]; exact h0
 | succ n ih =>
  have hne:y≠[]:=by intro e; subst e; simp at hn
  obtain ⟨b,x,rfl⟩:∃ b x,y=b++[x]:=⟨y.dropLast,y.getLast hne,(List.dropLast_concat_getLast hne).symm⟩
  exact h1 _ _ (ih b (by simpa using hn))
theorem syms_snocI {K:Int} {y:List Int} {s:Int}:Syms K (y++[s])↔Syms K y∧0≤s∧s<K :=
 ⟨fun h=>⟨fun x hx=>h x (by simp [hx]),h s (by simp)⟩,fun h x hx=>by
   rcases List.mem_append.1 hx with hx | hx
   ·exact h.1 x hx
   ·simp at hx; subst hx; exact h.2⟩
theorem reach_iff {K R:Nat} {T:List Int} (hr:RuleOk K R T) (y:List Int):∀ v,v<pw K (2*R) →
 ((reachB K (pw K (2*R)) T y).getD v false=true↔∃ x,Syms K x∧x.length=y.length+2*R∧imgP K R T x=y∧numW K x%pw K (2*R)=v):=by
 have hK:=hr.k1
 have hTl:T.length=pw K (2*R)*K:=by rw [hr.len,pw_succ]
 refine snoc_indI (P:=fun y=>∀ v,v<pw K (2*R)→((reachB K (pw K (2*R)) T y).getD v false=true↔∃ x,Syms K x∧x.length=y.length+2*R∧imgP K R T x=y∧numW K x%pw K (2*R)=v)) ?_ ?_ y
 ·intro v hv
  rw [reachB_nil]
  refine ⟨fun _=>⟨digs K (2*R) v,digs_syms hK _ _,by rw [digs_length]; simp,List.eq_nil_of_length_eq_zero (by rw [imgP_length,digs_length]; omega),by rw [numW_digs hK _ _ hv,Nat.mod_eq_of_lt hv]⟩,fun _=>by simp [List.getD,hv]⟩
 ·intro y s ih v hv
  rw [reachB_snoc,behB_iff hv]
  constructor
  ·rintro ⟨u,hu,h1,c,hc,h2,h3⟩
   obtain ⟨x,sx,lx,ex,nx⟩:=(ih u hu).1 h1
   have sxc:Syms K (x++[(c:Int)]):=syms_snocI.2 ⟨sx,by omega,by omega⟩
   have hw:numW K (x++[(c:Int)])%T.length=u*K+c:=by
    rw [numW_snoc,Int.toNat_natCast,hTl,← mod_front hc,nx]
   refine ⟨x++[(c:Int)],sxc,by simp [lx]; omega,?_,?_⟩
   ·rw [imgP_snoc hr.len sxc,if_pos (by omega),ex,hw,h3]
   ·rw [← h2,← hw,hTl,Nat.mod_mul_right_mod]
  ·rintro ⟨x,sx,lx,ex,nx⟩
   have hne:x≠[]:=by intro e; subst e; simp at lx; omega
   obtain ⟨b,d,rfl⟩:∃ b d,x=b++[d]:=⟨x.dropLast,x.getLast hne,(List.dropLast_concat_getLast hne).symm⟩
   obtain ⟨sb,d0,d1⟩:=syms_snocI.1 sx
   obtain ⟨c,rfl⟩:=Int.eq_ofNat_of_zero_le d0
   have hc:c<K:=by omega
   have lb:b.length=y.length+2*R:=by simp at lx; omega
   rw [imgP_snoc hr.len sx,if_pos (by omega)] at ex
   have e1:=List.append_inj' ex rfl
   have hw:numW K (b++[(c:Int)])%T.length=(numW K b%pw K (2*R))*K+c:=by
    rw [numW_snoc,Int.toNat_natCast,hTl,← mod_front hc]
   have hu:numW K b%pw K (2*R)<pw K (2*R):=Nat.mod_lt _ (pw_pos _ hK)
   refine ⟨numW K b%pw K (2*R),hu,(ih _ hu).2 ⟨b,sb,lb,e1.1,rfl⟩,c,hc,?_,?_⟩
   ·rw [← hw,hTl,Nat.mod_mul_right_mod,nx]
   ·rw [← hw]; have:=e1.2; injection this
theorem any_iff {l:List Bool} {N:Nat} (hl:l.length=N):l.any id=true↔∃ v,v<N∧l.getD v false=true:=by
 subst hl
 rw [List.any_eq_true]
 constructor
 ·rintro ⟨b,hb,h⟩
  obtain ⟨i,hi,rfl⟩:=List.getElem_of_mem hb
  exact ⟨i,hi,by simpa [List.getD,hi] using h⟩
 ·rintro ⟨v,hv,h⟩
  exact ⟨l[v],List.getElem_mem hv,by simpa [List.getD,hv] using h⟩
def HasPre (K R:Nat) (T:List Int) (y:List Int):Prop:=∃ x,Syms K x∧x.length=y.length+2*R∧imgP K R T x=y
theorem reach_anyS {K R:Nat} {T:List Int} (hr:RuleOk K R T) (y:List Int):(reachB K (pw K (2*R)) T y).any id=true↔HasPre K R T y:=by
 rw [any_iff (reachB_len _ _ _ _)]
 constructor
 ·rintro ⟨v,hv,h⟩
  obtain ⟨x,sx,lx,ex,_⟩:=(reach_iff hr y v hv).1 h
  exact ⟨x,sx,lx,ex⟩
 ·rintro ⟨x,sx,lx,ex⟩
  have hu:numW K x%pw K (2*R)<pw K (2*R):=Nat.mod_lt _ (pw_pos _ hr.k1)
  exact ⟨_,hu,(reach_iff hr y _ hu).2 ⟨x,sx,lx,ex,rfl⟩⟩
inductive SubR where
 | on (sets:List (List Bool)) (words:List (List Int))
 | orphan (w:List Int)
 | big
def subStep (K N:Nat) (T:List Int) (i t:Nat) (sets:List (List Bool)) (words:List (List Int)):SubR :=
 if (behB K N T (sets.getD i []) t).any id=false then .orphan (words.getD i []++[(t:Int)])
 else if behB K N T (sets.getD i []) t∈sets then .on sets words
 else if sets.length=4096 then .big
 else .on (sets++[behB K N T (sets.getD i []) t]) (words++[words.getD i []++[(t:Int)]])
def subRow (K N:Nat) (T:List Int) (i:Nat):Nat→Nat→List (List Bool)→List (List Int)→SubR
 | 0,_,sets,words=>.on sets words
 | m+1,t,sets,words=>match subStep K N T i t sets words with
  | .on a b=>subRow K N T i m (t+1) a b
  | r=>r
def subGo (K N:Nat) (T:List Int):Nat→Nat→List (List Bool)→List (List Int)→SubR
 | 0,_,sets,words=>.on sets words
 | f+1,i,sets,words=>if i<sets.length then match subRow K N T i K 0 sets words with
  | .on a b=>subGo K N T f (i+1) a b
  | r=>r
  else .on sets words
def subR (K N:Nat) (T:List Int):SubR:=subGo K N T 4097 0 [List.replicate N true] [[]]
structure SubInv (K N:Nat) (T:List Int) (i:Nat) (sets:List (List Bool)) (words:List (List Int)):Prop where
 ll:words.length=sets.length
 z0:0<sets.length
 z1:sets.getD 0 []=List.replicate N true
 z2:words.getD 0 []=[]
 eq:∀ j,j<sets.length→sets.getD j []=reachB K N T (words.getD j [])
 sy:∀ j,j<sets.length→Syms K (words.getD j [])
 ne:∀ j,j<sets.length→(sets.getD j []).any id=true
 mono:∀ j k,j≤k→k<sets.length→(words.getD j []).length≤(words.getD k []).length
 close:∀ j,j<i→∀ s,s<K→∃ k,k<sets.length∧sets.getD k []=behB K N T (sets.getD j []) (s:Nat)∧(words.getD k []).length≤(words.getD j []).length+1
 small:sets.length≤4096
structure SubMid (K N:Nat) (T:List Int) (i t:Nat) (sets:List (List Bool)) (words:List (List Int)):Prop extends SubInv K N T i sets words where
 il:i<sets.length
 top:∀ k,k<sets.length→(words.getD k []).length≤(words.getD i []).length+1
 part:∀ s,s<t→∃ k,k<sets.length∧sets.getD k []=behB K N T (sets.getD i []) (s:Nat)∧(words.getD k []).length≤(words.getD i []).length+1
theorem getD_leftS {α:Type} {l m:List α} {j:Nat} {d:α} (h:j<l.length):(l++m).getD j d=l.getD j d:=by
 simp [List.getD,List.getElem?_append_left h]
theorem getD_end {α:Type} {l:List α} {x d:α}:(l++[x]).getD l.length d=x:=by simp [List.getD]
def OrphanIs (K N:Nat) (T:List Int) (w:List Int):Prop:=Syms K w∧w≠[]∧(reachB K N T w).any id=false∧∀ y,Syms K y→y.length<w.length→(reachB K N T y).any id=true
theorem SubMid.early {K N i t:Nat} {T:List Int} {sets:List (List Bool)} {words:List (List Int)} (h:SubMid K N T i t sets words) (y:List Int) :
 Syms K y→y.length≤(words.getD i []).length→∃ j,j<sets.length∧sets.getD j []=reachB K N T y∧(words.getD j []).length≤y.length:=by
 refine snoc_indI (P:=fun y=>Syms K y→y.length≤(words.getD i []).length→∃ j,j<sets.length∧sets.getD j []=reachB K N T y∧(words.getD j []).length≤y.length) ?_ ?_ y
 ·intro _ _
  exact ⟨0,h.z0,by rw [h.z1,reachB_nil],by rw [h.z2]; simp⟩
 ·intro y s ih hs hl
  obtain ⟨sy,s0,s1⟩:=syms_snocI.1 hs
  rw [List.length_append,List.length_singleton] at hl
  obtain ⟨j,hj,e,l⟩:=ih sy (by omega)
  have hji:j<i:=by
   apply Classical.byContradiction
   intro hn
   have:=h.mono i j (by omega) hj
   omega
  obtain ⟨c,rfl⟩:=Int.eq_ofNat_of_zero_le s0
  obtain ⟨k,hk,ek,lk⟩:=h.close j hji c (by omega)
  exact ⟨k,hk,by rw [ek,e,reachB_snoc],by rw [List.length_append,List.length_singleton]; omega⟩
theorem subStep_inv {K N i t:Nat} {T:List Int} {sets:List (List Bool)} {words:List (List Int)} (h:SubMid K N T i t sets words) (ht:t<K) :
 (∃ w,subStep K N T i t sets words=.orphan w∧OrphanIs K N T w)∨subStep K N T i t sets words=.big ∨
 ∃ a b,subStep K N T i t sets words=.on a b∧SubMid K N T i (t+1) a b:=by
 have hi:=h.il
 have hwl:i<words.length:=by rw [h.ll]; exact hi
 have hbe:behB K N T (sets.getD i []) t=reachB K N T (words.getD i []++[(t:Int)]):=by rw [reachB_snoc,← h.eq i hi]
 have hsw:Syms K (words.getD i []++[(t:Int)]):=syms_snocI.2 ⟨h.sy i hi,by omega,by omega⟩
 unfold subStep
 by_cases h1:(behB K N T (sets.getD i []) t).any id=false
 ·rw [if_pos h1]
  refine .inl ⟨_,rfl,hsw,by simp,by rw [← hbe]; exact h1,fun y sy hy=>?_⟩
  rw [List.length_append,List.length_singleton] at hy
  obtain ⟨j,hj,e,_⟩:=h.early y sy (by omega)
  rw [← e]; exact h.ne j hj
 ·rw [if_neg h1]
  by_cases h2:behB K N T (sets.getD i []) t∈sets
  ·rw [if_pos h2]
   refine .inr (.inr ⟨_,_,rfl,h.toSubInv,hi,h.top,fun s hs=>?_⟩)
   by_cases e:s=t
   ·subst e
    obtain ⟨k,hk,ek⟩:=List.getElem_of_mem h2
    exact ⟨k,hk,by simpa [List.getD,hk] using ek,h.top k hk⟩
   ·exact h.part s (by omega)
  ·rw [if_neg h2]
   by_cases h3:sets.length=4096
   ·rw [if_pos h3]; exact .inr (.inl rfl)
   ·rw [if_neg h3]
    have hbt:(behB K N T (sets.getD i []) t).any id=true:=by
     cases hx:(behB K N T (sets.getD i []) t).any id with
     | true=>rfl
     | false=>exact absurd hx h1
    obtain ⟨b,hb⟩:∃ b,behB K N T (sets.getD i []) t=b:=⟨_,rfl⟩
    rw [hb] at hbe hbt ⊢
    have cs:∀ j,j<(sets++[b]).length→(j<sets.length∧(sets++[b]).getD j []=sets.getD j []∧(words++[words.getD i []++[(t:Int)]]).getD j []=words.getD j [])∨(j=sets.length∧(sets++[b]).getD j []=b∧(words++[words.getD i []++[(t:Int)]]).getD j []=words.getD i []++[(t:Int)]):=by
     intro j hj
     rw [List.length_append,List.length_singleton] at hj
     by_cases e:j<sets.length
     ·exact .inl ⟨e,getD_leftS e,getD_leftS (by rw [h.ll]; exact e)⟩
     ·obtain rfl:j=sets.length:=by omega
      exact .inr ⟨rfl,getD_end,by rw [← h.ll]; exact getD_end⟩
    have keep:∀ j,j<sets.length→(sets++[b]).getD j []=sets.getD j []∧(words++[words.getD i []++[(t:Int)]]).getD j []=words.getD j []:=fun j hj=>⟨getD_leftS hj,getD_leftS (by rw [h.ll]; exact hj)⟩
    have sml:=h.small
    refine .inr (.inr ⟨_,_,rfl,⟨by simp [h.ll],by simp,by rw [(keep 0 h.z0).1]; exact h.z1,by rw [(keep 0 h.z0).2]; exact h.z2,fun j hj=>?_,fun j hj=>?_,fun j hj=>?_,fun j k hjk hk=>?_,fun j hj s hs=>?_,by rw [List.length_append,List.length_singleton]; omega⟩,by simp; omega,fun k hk=>?_,fun s hs=>?_⟩)
    ·rcases cs j hj with ⟨q,e1,e2⟩ | ⟨q,e1,e2⟩
     ·rw [e1,e2]; exact h.eq j q
     ·rw [e1,e2]; exact hbe
    ·rcases cs j hj with ⟨q,e1,e2⟩ | ⟨q,e1,e2⟩
     ·rw [e2]; exact h.sy j q
     ·rw [e2]; exact hsw
    ·rcases cs j hj with ⟨q,e1,e2⟩ | ⟨q,e1,e2⟩
     ·rw [e1]; exact h.ne j q
     ·rw [e1]; exact hbt
    ·rcases cs k hk with ⟨q,_,e2⟩ | ⟨q,_,e2⟩
     ·rw [e2,(keep j (by omega)).2]; exact h.mono j k hjk q
     ·rw [e2]
      rcases cs j (by omega) with ⟨q',_,e2'⟩ | ⟨q',_,e2'⟩
      ·rw [e2',List.length_append,List.length_singleton]; exact h.top j q'
      ·rw [e2']; exact Nat.le_refl _
    ·obtain ⟨k,hk,e,l⟩:=h.close j hj s hs
     refine ⟨k,by simp; omega,?_,?_⟩
     ·rw [(keep k hk).1,(keep j (by omega)).1]; exact e
     ·rw [(keep k hk).2,(keep j (by omega)).2]; exact l
    ·rw [(keep i hi).2]
     rcases cs k hk with ⟨q,_,e2⟩ | ⟨q,_,e2⟩
     ·rw [e2]; exact h.top k q
     ·rw [e2]; simp
    ·rw [(keep i hi).2,(keep i hi).1]
     by_cases e:s=t
     ·subst e
      exact ⟨sets.length,by simp,by rw [getD_end,hb],by rw [show (words++[words.getD i []++[(s:Int)]]).getD sets.length []=words.getD i []++[(s:Int)] by rw [← h.ll]; exact getD_end]; simp⟩
     ·obtain ⟨k,hk,e1,l⟩:=h.part s (by omega)
      exact ⟨k,by simp; omega,by rw [(keep k hk).1]; exact e1,by rw [(keep k hk).2]; exact l⟩
theorem subRow_inv {K N i:Nat} {T:List Int}:∀ (m t:Nat) (sets:List (List Bool)) (words:List (List Int)),SubMid K N T i t sets words→t+m=K →
 (∃ w,subRow K N T i m t sets words=.orphan w∧OrphanIs K N T w)∨subRow K N T i m t sets words=.big ∨
 ∃ a b,subRow K N T i m t sets words=.on a b∧SubMid K N T i K a b
 | 0,t,sets,words,h,e=>by
  obtain rfl:t=K:=by omega
  exact .inr (.inr ⟨_,_,rfl,h⟩)
 | m+1,t,sets,words,h,e=>by
  unfold subRow
  rcases subStep_inv h (by omega) with ⟨w,q,hw⟩ | q | ⟨a,b,q,h2⟩
  ·rw [q]; exact .inl ⟨w,rfl,hw⟩
  ·rw [q]; exact .inr (.inl rfl)
  ·rw [q]; exact subRow_inv m (t+1) a b h2 (by omega)
theorem SubInv.mid {K N i:Nat} {T:List Int} {sets:List (List Bool)} {words:List (List Int)} (h:SubInv K N T i sets words) (hi:i<sets.length) (ht:∀ k,k<sets.length→(words.getD k []).length≤(words.getD i []).length+1):SubMid K N T i 0 sets words :=
 ⟨h,hi,ht,fun _ hs=>absurd hs (Nat.not_lt_zero _)⟩
def SubSays (K N:Nat) (T:List Int):SubR→Prop
 | .on _ _=>∀ y,Syms K y→(reachB K N T y).any id=true
 | .orphan w=>OrphanIs K N T w
 | .big=>True
theorem subGo_says {K N:Nat} {T:List Int}:∀ (f i:Nat) (sets:List (List Bool)) (words:List (List Int)),SubInv K N T i sets words→(i<sets.length→∀ k,k<sets.length→(words.getD k []).length≤(words.getD i []).length+1)→i+f=4097→i≤sets.length →
 SubSays K N T (subGo K N T f i sets words)
 | 0,i,sets,words,h,_,e,hi=>by have:=h.small; omega
 | f+1,i,sets,words,h,ht,e,hi=>by
  unfold subGo
  by_cases hl:i<sets.length
  ·rw [if_pos hl]
   rcases subRow_inv K 0 sets words (h.mid hl (ht hl)) (by omega) with ⟨w,q,hw⟩ | q | ⟨a,b,q,h2⟩
   ·rw [q]; exact hw
   ·rw [q]; trivial
   ·rw [q]
    have hcl:∀ j,j<i+1→∀ s,s<K→∃ k,k<a.length∧a.getD k []=behB K N T (a.getD j []) (s:Nat)∧(b.getD k []).length≤(b.getD j []).length+1:=by
     intro j hj s hs
     by_cases e:j=i
     ·subst e; exact h2.part s hs
     ·exact h2.close j (by omega) s hs
    have h3:SubInv K N T (i+1) a b:={ h2.toSubInv with close:=hcl }
    refine subGo_says f (i+1) a b h3 (fun hi1 k hk=>?_) (by omega) (by have:=h2.il; omega)
    have h4:=h2.top k hk
    have h5:=h2.mono i (i+1) (by omega) hi1
    omega
  ·rw [if_neg hl]
   obtain rfl:i=sets.length:=by omega
   have key:∀ y,Syms K y→∃ j,j<sets.length∧sets.getD j []=reachB K N T y:=fun y=>by
    refine snoc_indI (P:=fun y=>Syms K y→∃ j,j<sets.length∧sets.getD j []=reachB K N T y) ?_ ?_ y
    ·intro _; exact ⟨0,h.z0,by rw [h.z1,reachB_nil]⟩
    ·intro y s ih hs
     obtain ⟨sy,s0,s1⟩:=syms_snocI.1 hs
     obtain ⟨j,hj,e⟩:=ih sy
     obtain ⟨c,rfl⟩:=Int.eq_ofNat_of_zero_le s0
     obtain ⟨k,hk,ek,_⟩:=h.close j hj c (by omega)
     exact ⟨k,hk,by rw [ek,e,reachB_snoc]⟩
   intro y sy
   obtain ⟨j,hj,e⟩:=key y sy
   rw [← e]; exact h.ne j hj
theorem sub_says {K R:Nat} {T:List Int} (hr:RuleOk K R T):SubSays K (pw K (2*R)) T (subR K (pw K (2*R)) T):=by
 unfold subR
 have hp:=pw_pos (2*R) hr.k1
 have one:∀ j,j<[List.replicate (pw K (2*R)) true].length→j=0:=fun j hj=>by simp at hj; omega
 have hne:∀ j,j<[List.replicate (pw K (2*R)) true].length→([List.replicate (pw K (2*R)) true].getD j []).any id=true:=fun j hj=>by
  rw [one j hj]
  show (List.replicate (pw K (2*R)) true).any id=true
  obtain ⟨q,hq⟩:∃ q,pw K (2*R)=q+1:=⟨pw K (2*R)-1,by omega⟩
  rw [hq,List.replicate_succ]; rfl
 have hmono:∀ j k,j≤k→k<[List.replicate (pw K (2*R)) true].length→(([[]]:List (List Int)).getD j []).length≤(([[]]:List (List Int)).getD k []).length:=fun j k hjk hk=>by
  obtain rfl:=one k hk
  obtain rfl:j=0:=(by omega)
  exact Nat.le_refl _
 refine subGo_says 4097 0 _ _ ⟨rfl,by simp,rfl,rfl,fun j hj=>by rw [one j hj]; rfl,fun j hj=>(by rw [one j hj]; intro x hx; exact absurd hx (by simp)),hne,hmono,fun j hj=>absurd hj (Nat.not_lt_zero _),by simp⟩ (fun _ k hk=>by rw [one k hk]; simp) rfl (Nat.zero_le _)
theorem sub_on {K R:Nat} {T:List Int} (hr:RuleOk K R T) {a:List (List Bool)} {b:List (List Int)} (h:subR K (pw K (2*R)) T=.on a b):Onto K R T:=fun y sy=>by
 have:=sub_says hr
 rw [h] at this
 exact (reach_anyS hr y).1 (this y sy)
theorem sub_orphan {K R:Nat} {T:List Int} (hr:RuleOk K R T) {w:List Int} (h:subR K (pw K (2*R)) T=.orphan w):Syms K w∧w≠[]∧¬ HasPre K R T w∧∀ y,Syms K y→y.length<w.length→HasPre K R T y:=by
 have hs:=sub_says hr
 rw [h] at hs
 obtain ⟨h1,h2,h3,h4⟩:=hs
 exact ⟨h1,h2,fun hp=>(by rw [(reach_anyS hr w).2 hp] at h3; cases h3),fun y sy hy=>(reach_anyS hr y).1 (h4 y sy hy)⟩
theorem sub_not_onto {K R:Nat} {T:List Int} (hr:RuleOk K R T) {w:List Int} (h:subR K (pw K (2*R)) T=.orphan w):¬ Onto K R T:=fun ho=>(sub_orphan hr h).2.2.1 (ho w (sub_orphan hr h).1)
open Go.RowKit
set_option maxRecDepth 100000
abbrev boxN (T:TypeId) (n g:Nat) (cs:List Value):Row:=⟨T,n,.slice (some ⟨g,0,none⟩) 1 1,1,cs⟩
theorem Rows.mkN {B:Nat} {w:World} {f:Names} (i:Nat×Nat) (h:Rows B w f) (hB:B≤w.heap.size) (T:TypeId) (n:Nat) (cs:Array Value) (hs:cs.size=n) :
 ∃ f',Rows B (w.alloc (.cells cs T)) f'∧f' i=some (boxN T n w.heap.size cs.toList)∧∀ j,j≠i→f' j=f j :=
 h.addE i (r':=boxN T n w.heap.size cs.toList) (belowAlloc w _) (World.ownsRow_lit (base:=B) (e:=T) (size:=n) w cs 1 hB (by unfold maxLen; omega) (by rw [hs]; omega)) (fun k hk=>by cases hk; exact Nat.le_refl _)
section
variable {B:Nat} {w:World} {f:Names} {i:Nat×Nat} {T:TypeId} {n g:Nat} {cs:List Value}
theorem Rows.cellN (h:Rows B w f) (hi:f i=some (boxN T n g cs)) (k:Nat) (hk:k<n):w.cell? ⟨g,k,none⟩=cs[k]?:=h.cell hi (g:=g) (cap:=1) rfl k (show k<1*n by omega)
theorem Rows.frzN (h:Rows B w f) (hi:f i=some (boxN T n g cs)) (k:Nat):w.frozen? ⟨g,k,none⟩=false:=h.frozen hi (g:=g) (cap:=1) rfl k
theorem Rows.lowN (h:Rows B w f) (hi:f i=some (boxN T n g cs)):B≤g∧g<w.heap.size:=h.lt hi g rfl
theorem Rows.stN (h:Rows B w f) (hi:f i=some (boxN T n g cs)) (k:Nat) (y:Value):∃ f',Rows B (w.setCell ⟨g,k,none⟩ y) f'∧f' i=some (boxN T n g (cs.set k y))∧∀ j,j≠i→f' j=f j :=
 ⟨_,h.set hi (g:=g) (cap:=1) rfl k y,upd_same _ _ _,fun _ e=>upd_ne _ _ e⟩
end
def LkAt (B:Nat) (w:World) (b x e o:Nat) (rs cs es zs:List Value) (ov fv:Value) (ol fl:List Int):Prop :=
 ∃ f,Rows B w f∧f (40,0)=some (boxN 46 9 x cs)∧f (41,0)=some (boxN 101 5 e es)∧f (42,0)=some (boxN 46 9 o zs)∧f (43,0)=some (rowI ov ol)∧f (44,0)=some (rowI fv fl)∧f (45,0)=some (boxN 24 3 b rs)
section
variable {B:Nat} {w:World} {b x e o:Nat} {rs cs es zs:List Value} {ov fv:Value} {ol fl:List Int}
theorem LkAt.below {w':World} (h:LkAt B w b x e o rs cs es zs ov fv ol fl) (hb:Below w.heap.size w w'):LkAt B w' b x e o rs cs es zs ov fv ol fl:=by
 obtain ⟨f,hR,r⟩:=h
 exact ⟨f,hR.below hb,r⟩
theorem LkAt.low (h:LkAt B w b x e o rs cs es zs ov fv ol fl):B≤x∧B≤e∧B≤o:=by
 obtain ⟨f,hR,n0,n1,n2,-,-,-⟩:=h
 exact ⟨(hR.lowN n0).1,(hR.lowN n1).1,(hR.lowN n2).1⟩
theorem LkAt.cx (h:LkAt B w b x e o rs cs es zs ov fv ol fl) (k:Nat) (hk:k<9):w.cell? ⟨x,k,none⟩=cs[k]?:=by
 obtain ⟨f,hR,n0,n1,n2,-,-,-⟩:=h
 exact hR.cellN n0 k hk
theorem LkAt.ce (h:LkAt B w b x e o rs cs es zs ov fv ol fl) (k:Nat) (hk:k<5):w.cell? ⟨e,k,none⟩=es[k]?:=by
 obtain ⟨f,hR,n0,n1,n2,-,-,-⟩:=h
 exact hR.cellN n1 k hk
theorem LkAt.co (h:LkAt B w b x e o rs cs es zs ov fv ol fl) (k:Nat) (hk:k<9):w.cell? ⟨o,k,none⟩=zs[k]?:=by
 obtain ⟨f,hR,n0,n1,n2,-,-,-⟩:=h
 exact hR.cellN n2 k hk
theorem LkAt.cr (h:LkAt B w b x e o rs cs es zs ov fv ol fl) (k:Nat) (hk:k<3):w.cell? ⟨b,k,none⟩=rs[k]?:=by
 obtain ⟨f,hR,n0,n1,n2,-,-,n5⟩:=h
 exact hR.cellN n5 k hk
theorem LkAt.fx (h:LkAt B w b x e o rs cs es zs ov fv ol fl) (k:Nat):w.frozen? ⟨x,k,none⟩=false:=by
 obtain ⟨f,hR,n0,n1,n2,-,-,-⟩:=h
 exact hR.frzN n0 k
theorem LkAt.fe (h:LkAt B w b x e o rs cs es zs ov fv ol fl) (k:Nat):w.frozen? ⟨e,k,none⟩=false:=by
 obtain ⟨f,hR,n0,n1,n2,-,-,-⟩:=h
 exact hR.frzN n1 k
theorem LkAt.fo (h:LkAt B w b x e o rs cs es zs ov fv ol fl) (k:Nat):w.frozen? ⟨o,k,none⟩=false:=by
 obtain ⟨f,hR,n0,n1,n2,-,-,-⟩:=h
 exact hR.frzN n2 k
theorem LkAt.sx (h:LkAt B w b x e o rs cs es zs ov fv ol fl) (k:Nat) (y:Value):LkAt B (w.setCell ⟨x,k,none⟩ y) b x e o rs (cs.set k y) es zs ov fv ol fl:=by
 obtain ⟨f,hR,n0,n1,n2,n3,n4,n5⟩:=h
 obtain ⟨f',hR',m0,o'⟩:=hR.stN n0 k y
 exact ⟨f',hR',m0,(o' _ (by decide)).trans n1,(o' _ (by decide)).trans n2,(o' _ (by decide)).trans n3,(o' _ (by decide)).trans n4,(o' _ (by decide)).trans n5⟩
theorem LkAt.se (h:LkAt B w b x e o rs cs es zs ov fv ol fl) (k:Nat) (y:Value):LkAt B (w.setCell ⟨e,k,none⟩ y) b x e o rs cs (es.set k y) zs ov fv ol fl:=by
 obtain ⟨f,hR,n0,n1,n2,n3,n4,n5⟩:=h
 obtain ⟨f',hR',m0,o'⟩:=hR.stN n1 k y
 exact ⟨f',hR',(o' _ (by decide)).trans n0,m0,(o' _ (by decide)).trans n2,(o' _ (by decide)).trans n3,(o' _ (by decide)).trans n4,(o' _ (by decide)).trans n5⟩
theorem LkAt.so (h:LkAt B w b x e o rs cs es zs ov fv ol fl) (k:Nat) (y:Value):LkAt B (w.setCell ⟨o,k,none⟩ y) b x e o rs cs es (zs.set k y) ov fv ol fl:=by
 obtain ⟨f,hR,n0,n1,n2,n3,n4,n5⟩:=h
 obtain ⟨f',hR',m0,o'⟩:=hR.stN n2 k y
 exact ⟨f',hR',(o' _ (by decide)).trans n0,(o' _ (by decide)).trans n1,m0,(o' _ (by decide)).trans n3,(o' _ (by decide)).trans n4,(o' _ (by decide)).trans n5⟩
theorem LkAt.orphan {w':World} {v:Value} {l:List Int} (h:LkAt B w b x e o rs cs es zs ov fv ol fl) (hb:Below w.heap.size w w') (hB:B≤w.heap.size) (ho:OwnI w.heap.size w' v l):LkAt B w' b x e o rs cs es zs v fv l fl:=by
 obtain ⟨f,hR,n0,n1,n2,n3,n4,n5⟩:=h
 obtain ⟨f',hR',m0,o'⟩:=hR.addE (43,0) (r':=rowI v l) hb (ho.mono hB) (fun k hk=>(ho.lt k hk).1)
 exact ⟨f',hR',(o' _ (by decide)).trans n0,(o' _ (by decide)).trans n1,(o' _ (by decide)).trans n2,m0,(o' _ (by decide)).trans n4,(o' _ (by decide)).trans n5⟩
theorem LkAt.facs {w':World} {v:Value} {l:List Int} (h:LkAt B w b x e o rs cs es zs ov fv ol fl) (hb:Below w.heap.size w w') (hB:B≤w.heap.size) (ho:OwnI w.heap.size w' v l):LkAt B w' b x e o rs cs es zs ov v ol l:=by
 obtain ⟨f,hR,n0,n1,n2,n3,n4,n5⟩:=h
 obtain ⟨f',hR',m0,o'⟩:=hR.addE (44,0) (r':=rowI v l) hb (ho.mono hB) (fun k hk=>(ho.lt k hk).1)
 exact ⟨f',hR',(o' _ (by decide)).trans n0,(o' _ (by decide)).trans n1,(o' _ (by decide)).trans n2,(o' _ (by decide)).trans n3,m0,(o' _ (by decide)).trans n5⟩
theorem LkAt.lists (h:LkAt B w b x e o rs cs es zs ov fv ol fl):OwnI B w ov ol∧OwnI B w fv fl∧(ov.ownBlock=none∨ov.ownBlock≠fv.ownBlock):=by
 obtain ⟨f,hR,n0,n1,n2,n3,n4,n5⟩:=h
 exact ⟨hR.ownI n3,hR.ownI n4,hR.2 (43,0) (44,0) _ _ n3 n4 (by decide)⟩
end
def ontoN:SubR→Int
 | .on _ _=>1
 | .orphan _=>2
 | .big=>3
def orphL:SubR→List Int
 | .orphan w=>w
 | _=>[]
end Go.Proofs.YtncpnaoabkjegaaGreatDoor
namespace Go.Proofs.YtncpnaoabkjegaaGreatDoor
open Go.RowKit Go.Extern.Stop Go.Stop Go.Extern
set_option maxRecDepth 100000
set_option maxHeartbeats 8000000
namespace Errs
theorem noIsE (v:Value) (xT:TypeId) (w:World):(Instr.typeAssert (.iface 322 v) xT 258 true).run Tryz.prog w=.ok (.tuple #[.nilIface,.bool false]) w:=run_typeAssert_lacksB uIs (by kernel_rfl) (by kernel_rfl) v xT w
theorem noUnwE (v:Value) (xT:TypeId) (w:World):(Instr.typeAssert (.iface 322 v) xT 227 true).run Tryz.prog w=.ok (.tuple #[.nilIface,.bool false]) w:=run_typeAssert_lacksB uUnw (by kernel_rfl) (by kernel_rfl) v xT w
theorem uUnws' : Tryz.prog.underlying 246 = some (.interface #[("Unwrap", 248)]) := by kernel_rfl
theorem noUnwsE (v:Value) (xT:TypeId) (w:World):(Instr.typeAssert (.iface 322 v) xT 246 true).run Tryz.prog w=.ok (.tuple #[.nilIface,.bool false]) w:=run_typeAssert_lacksB uUnws' (by kernel_rfl) (by kernel_rfl) v xT w
theorem roots_ne {r:Nat→Addr} {w:World} (hg:Glob r w) {m n:Int} (hm:1≤m∧m≤11) (hn:1≤n∧n≤11) (hne:m≠n):(binOp .eql 27 (rootV r m) (rootV r n)).run Tryz.prog w=.ok (.bool false) w:=by
 obtain ⟨i,hi,hcmp⟩:=Option.map_eq_some_iff.1 compE
 obtain ⟨j,hj,hjs⟩:=Option.map_eq_some_iff.1 sizeE
 obtain ⟨c1,t1,f1⟩:=hg.flat m.toNat (.inl (by omega))
 obtain ⟨c2,t2,f2⟩:=hg.flat n.toNat (.inl (by omega))
 exact run_eql_iface_ptr_other (P:=Tryz.prog) w uErr uES hi hcmp hj (by rw [hjs]; decide) (fun e=>hne (hg.apart m n hm.1 hm.2 hn.1 hn.2 e)) f1 f2
theorem is_loop_no (r:Nat→Addr) (n m:Int) (l:List (ByteArray×Int)) (v:Value) (w:World) (hg:Glob r w) (h:ErrAt r w n l v) (hm:1≤m∧m≤11) (hn:1≤n∧n≤11) (hne:n≠m) :
 Calls Tryz.prog 138 #[v,rootV r m,.bool true] w fun e w'=>e=.returned (.bool false)∧w=w':=by
 have heq:=roots_ne hg hn hm hne
 have nF:=noIsF
 have uF:=hasUnwrapF
 have mU:=methodUnwrap
 have nE:=noIsE
 have uE:=noUnwE
 have usE:=noUnwsE
 replace h:=Hd h
 replace hg:=Hd hg
 clear hm hn hne
 go_enter Tryz.func138,Tryz.ntmps138
 go_wp2
 go_loopg [0] l.length (fun k u wr=>wr=w∧∃ l',l'.length=k∧ErrAt r w n l' u)
 case atStart=>exact ⟨rfl,l,rfl,h.out⟩
 case round =>
  obtain ⟨rfl,l',hl',hu⟩:=hrel
  match l',hl',hu with
  | [],hl',hu =>
   obtain rfl:_=rootV r n:=hu
   clear hl'
   go_wp2
   go_ret
   exact ⟨rfl,rfl⟩
  | (op,at_)::rest,hl',hu =>
   obtain ⟨p,u',rfl,c0,c1,c2,hrest⟩:=hu
   obtain ⟨T,a,rfl⟩:=hrest.shape
   have hty:=run_eql_iface_types (P:=Tryz.prog) 119 322 (.pointer (some ⟨p,0,none⟩)) (.pointer (some (r m.toNat))) uErr (by decide) wr
   replace hrest:=Hd hrest
   replace hl':=Hd hl'
   go_wp2_with (go_at_call 281; refine (unwrap_any p _ _ c2).mono ?_; rintro e w' ⟨rfl,rfl⟩)
   go_roundg rest.length
   case measure=>have:=hl'.out; simp at this; omega
   case rel=>exact ⟨rfl,rest,rfl,hrest.out⟩
theorem is_no (r:Nat→Addr) (n m:Int) (l:List (ByteArray×Int)) (v:Value) (w:World) (hg:Glob r w) (h:ErrAt r w n l v) (hm:1≤m∧m≤11) (hn:1≤n∧n≤11) (hne:n≠m) :
 Calls Tryz.prog 61 #[v,rootV r m] w fun e w'=>e=.returned (.bool false)∧w=w':=by
 have h8:=@run_callFunc_extern Tryz.prog 137 _ Extern.ReflectliteType.typeOf Tryz.func137 (by kernel_rfl) (by kernel_rfl) (by kernel_rfl) (by kernel_rfl)
 have h32 := @run_callFunc_extern Tryz.prog 288 _ (Extern.ReflectliteType.method fun t => do Extern.Rtype.noPackHeld "Comparable" t; pure (.bool (← typeInfo t).comparable)) Tryz.func288 (by kernel_rfl) (by kernel_rfl) (by kernel_rfl) (by kernel_rfl)
 have tT:=typeOfE
 have cT:=comparableE
 have mR:=methodComparable
 obtain ⟨T,a,rfl⟩:=h.shape
 replace h:=Hd h
 replace hg:=Hd hg
 go_enter Tryz.func61,Tryz.ntmps61
 go_wp2_with fail
 refine (is_loop_no r n m l _ _ hg.out h.out hm hn hne).mono ?_
 rintro e w' ⟨rfl,rfl⟩
 go_wp2
 go_ret
 exact ⟨rfl,rfl⟩
theorem is_nil (T:TypeId) (x:Value) (w:World):Calls Tryz.prog 61 #[.nilIface,.iface T x] w fun e w'=>e=.returned (.bool false)∧w=w':=by
 have q:=fun w':World=>run_eql_iface_nil_left (P:=Tryz.prog) w' T x uErr
 go_enter Tryz.func61,Tryz.ntmps61
 go_wp2
 go_ret
 exact ⟨rfl,rfl⟩
end Errs
end Go.Proofs.YtncpnaoabkjegaaGreatDoor
namespace Go.Proofs.YtncpnaoabkjegaaGreatDoor
open Go.RowKit
set_option maxRecDepth 100000
end Go.Proofs.YtncpnaoabkjegaaGreatDoor
