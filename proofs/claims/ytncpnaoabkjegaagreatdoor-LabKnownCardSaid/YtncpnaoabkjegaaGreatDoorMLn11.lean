/-
  Proved: the law edenlaw26.LabKnown as its tied card: it returns true and never panics, for any rule. No conditions beyond the card's own.
-/
import Derived.Test.YtncpnaoabkjegaaGreatDoorMLn10
import Derived.BigQuiet
import Derived.Deep.QuietTactic
import Derived.Test.YtncpnaoabkjegaaGreatDoorRows
import Derived.ProofKit
import Derived.OpenShut
import Derived.ShutString
import Derived.ChangeOld
import Derived.LaidMore
import Derived.Stop.Joined
import Derived.Stop.LaidErr
import Derived.Lib.SmallJoins
import Derived.LaidHandle
import Derived.Test.YtncpnaoabkjegaaGreatDoorCards
import Derived.Test.YtncpnaoabkjegaaGreatDoorTie
import Derived.SevenTiedAt
namespace Go.Proofs.YtncpnaoabkjegaaGreatDoor
theorem right_ext {K R:Nat} {T:List Int} (h:RuleOk K R T) (hp:unlikeP K T 1=true) {u:List Int} (hu:Syms K u) (hl:u.length=2*R) {y:Int} (y0:0≤y) (y1:y<K):∃ s:Int,0≤s∧s<K∧T.getD (numW K (u++[s])) 0=y:=by
 have h1:=h.k1
 have hn:=numW_lt u hu
 rw [hl] at hn
 have hf:=unlikeP_full hp (numW K u*K) (by rw [h.half.2]; exact Nat.mul_lt_mul_of_pos_right hn (by omega)) (by rw [Nat.div_one,Nat.mul_mod_left])
 obtain ⟨s,hs,he⟩:=fullP_all h1 h.syms hf y.toNat (by omega)
 rw [Nat.mul_one] at he
 refine ⟨s,by omega,by omega,?_⟩
 rw [numW_snoc,Int.toNat_natCast,he]
 omega
theorem left_ext {K R:Nat} {T:List Int} (h:RuleOk K R T) (hp:unlikeP K T (T.length/K)=true) {u:List Int} (hu:Syms K u) (hl:u.length=2*R) {y:Int} (y0:0≤y) (y1:y<K):∃ s:Int,0≤s∧s<K∧T.getD (numW K (s::u)) 0=y:=by
 obtain ⟨s,s0,s1,e⟩:=right_ext (mirT_ok h) (by rw [(mir_sides h).2]; exact hp) (syms_rev hu) (by rw [List.length_reverse,hl]) y0 y1
 refine ⟨s,s0,s1,?_⟩
 have sw:Syms K (u.reverse++[s]):=syms_snoc s0 s1 (syms_rev hu)
 rw [mirT_at h.k1 h.len _ sw (by simp [hl]),List.reverse_append,List.reverse_reverse] at e
 exact e
theorem firstP_ne {a b:List Int} (hl:a.length=b.length) (hne:a≠b):∃ t,t<a.length∧a.getD t 0≠b.getD t 0∧∀ i,i<t→a.getD i 0=b.getD i 0:=by
 have key:∀ n,(∃ t,t≤n∧t<a.length∧a.getD t 0≠b.getD t 0)→∃ t,t<a.length∧a.getD t 0≠b.getD t 0∧∀ i,i<t→a.getD i 0=b.getD i 0:=by
  intro n
  induction n with
  | zero=>rintro ⟨t,h1,h2,h3⟩; exact ⟨t,h2,h3,fun i hi=>by omega⟩
  | succ n ih =>
   rintro ⟨t,h1,h2,h3⟩
   by_cases q:∃ t,t≤n∧t<a.length∧a.getD t 0≠b.getD t 0
   ·exact ih q
   ·refine ⟨t,h2,h3,fun i hi=>Classical.byContradiction fun r=>q ⟨i,by omega,by omega,r⟩⟩
 obtain ⟨j,hj,h⟩:=ne_at hl hne
 exact key j ⟨j,Nat.le_refl _,hj,h⟩
theorem right_no_twins {K R:Nat} {T:List Int} (h:RuleOk K R T) (hp:unlikeP K T 1=true) (a b:List Int):¬ IsTwins K R T a b:=fun t=>by
 have hw:=(unlike_rightW h).1 hp
 have hl:=t.len
 obtain ⟨i,hi,hne,heq⟩:=firstP_ne hl t.ne
 have hi2:2*R≤i:=by
  apply Classical.byContradiction
  intro q
  have e:=congrArg (fun l:List Int=>l.getD i 0) t.front
  rw [List.getD_eq_getElem?_getD,List.getD_eq_getElem?_getD,List.getElem?_take,List.getElem?_take,if_pos (by omega),if_pos (by omega),← List.getD_eq_getElem?_getD,← List.getD_eq_getElem?_getD] at e
  exact hne e
 have hu:(a.drop (i-2*R)).take (2*R)=(b.drop (i-2*R)).take (2*R):=ext_getD (by simp only [List.length_take,List.length_drop]; omega) fun k hk=>by
  rw [List.length_take,List.length_drop] at hk
  rw [sub_get (by omega),sub_get (by omega)]
  exact heq _ (by omega)
 have win:∀ c:List Int,c.length=a.length→(c.drop (i-2*R)).take (2*R+1)=(c.drop (i-2*R)).take (2*R)++[c.getD i 0]:=fun c hc=>by
  have hk:2*R<(c.drop (i-2*R)).length:=by rw [List.length_drop]; omega
  rw [List.take_succ_eq_append_getElem hk]
  congr 2
  rw [List.getElem_drop]
  have:i-2*R+2*R=i:=by omega
  simp [this,List.getD,show i<c.length by omega]
 have e:=congrArg (fun l:List Int=>l.getD (i-2*R) 0) t.img
 rw [imgP_getD _ _ _ _ _ (by omega),imgP_getD _ _ _ _ _ (by omega),win a rfl,win b hl.symm,hu] at e
 have ga:=getD_syms t.sa hi
 have gb:=getD_syms t.sb (i:=i) (by omega)
 exact hw _ (syms_take (syms_drop t.sb _) _) (by rw [List.length_take,List.length_drop]; omega) _ _ ga.1 ga.2 gb.1 gb.2 hne e
theorem side_no_twins {K R:Nat} {T:List Int} (h:RuleOk K R T) (hp:unlikeP K T (T.length/K)=true∨unlikeP K T 1=true) (a b:List Int):¬ IsTwins K R T a b:=fun t=>by
 rcases hp with hp | hp
 ·exact right_no_twins (mirT_ok h) (by rw [(mir_sides h).2]; exact hp) _ _ (mir_twins h t)
 ·exact right_no_twins h hp a b t
def AllAt (K R:Nat) (T:List Int) (z:Int) (x:List Int):Prop:=∀ j,j+2*R<x.length→T.getD (numW K ((x.drop j).take (2*R+1))) 0=z
theorem all_right {K R:Nat} {T:List Int} (h:RuleOk K R T) (hp:unlikeP K T 1=true) {z:Int} (z0:0≤z) (z1:z<K) {x:List Int} (sx:Syms K x) (hx:AllAt K R T z x) (hl:2*R≤x.length):∃ v:Int,0≤v∧v<K∧AllAt K R T z (x++[v]):=by
 obtain ⟨v,v0,v1,e⟩:=right_ext h hp (u:=x.drop (x.length-2*R)) (syms_drop sx _) (by rw [List.length_drop]; omega) z0 z1
 refine ⟨v,v0,v1,fun j hj=>?_⟩
 rw [List.length_append,List.length_singleton] at hj
 by_cases q:j+2*R<x.length
 ·rw [List.drop_append_of_le_length (by omega),List.take_append_of_le_length (by rw [List.length_drop]; omega)]
  exact hx j q
 ·obtain rfl:j=x.length-2*R:=by omega
  rw [List.drop_append_of_le_length (by omega),List.take_of_length_le (by simp; omega)]
  exact e
theorem all_left {K R:Nat} {T:List Int} (h:RuleOk K R T) (hp:unlikeP K T (T.length/K)=true) {z:Int} (z0:0≤z) (z1:z<K) {x:List Int} (sx:Syms K x) (hx:AllAt K R T z x) (hl:2*R≤x.length):∃ v:Int,0≤v∧v<K∧AllAt K R T z (v::x):=by
 obtain ⟨v,v0,v1,e⟩:=left_ext h hp (u:=x.take (2*R)) (syms_take sx _) (by rw [List.length_take]; omega) z0 z1
 refine ⟨v,v0,v1,fun j hj=>?_⟩
 rw [List.length_cons] at hj
 cases j with
 | zero=>rw [List.drop_zero,List.take_succ_cons]; exact e
 | succ j=>rw [List.drop_succ_cons]; exact hx j (by omega)
theorem all_word {K R:Nat} {T:List Int} (h:RuleOk K R T) (hl:unlikeP K T (T.length/K)=true) (hr:unlikeP K T 1=true) (hK:2≤K) (hR:1≤R) {z:Int} (z0:0≤z) (z1:z<K):∀ L M,∃ x,Syms K x∧AllAt K R T z x∧x.length=L+2*R+M∧x.getD L 0=1:=by
 intro L
 have left:∃ x,Syms K x∧AllAt K R T z x∧x.length=L+2*R∧x.getD L 0=1:=by
  induction L with
  | zero =>
   refine ⟨1::List.replicate (2*R-1) 0,fun q hq=>?_,fun j hj=>?_,by simp; omega,rfl⟩
   ·rcases List.mem_cons.1 hq with rfl | hq
    ·omega
    ·rw [List.eq_of_mem_replicate hq]; omega
   ·rw [List.length_cons,List.length_replicate] at hj; omega
  | succ L ih =>
   obtain ⟨x,sx,ax,lx,dx⟩:=ih
   obtain ⟨v,v0,v1,av⟩:=all_left h hl z0 z1 sx ax (by omega)
   exact ⟨v::x,syms_cons v0 v1 sx,av,by simp [lx]; omega,by rw [List.getD_cons_succ]; exact dx⟩
 intro M
 induction M with
 | zero=>exact left
 | succ M ih =>
  obtain ⟨x,sx,ax,lx,dx⟩:=ih
  obtain ⟨v,v0,v1,av⟩:=all_right h hr z0 z1 sx ax (by omega)
  refine ⟨x++[v],syms_snoc v0 v1 sx,av,by simp [lx]; omega,?_⟩
  rw [← dx]
  simp [List.getD,List.getElem?_append_left (show L<x.length by omega)]
theorem sides_not_one {K R:Nat} {T:List Int} (h:RuleOk K R T) (hl:unlikeP K T (T.length/K)=true) (hr:unlikeP K T 1=true) (hK:2≤K) (hR:1≤R):NotOne K R T:=fun n=>by
 have hT:0<T.length:=by rw [h.len]; exact pw_pos _ h.k1
 have gz:=getD_syms h.syms hT
 obtain ⟨x,sx,ax,lx,dx⟩:=all_word h hl hr hK hR gz.1 gz.2 n (n+1)
 have sO:Syms K (List.replicate (2*n+1) (0:Int)):=fun q hq=>by rw [List.eq_of_mem_replicate hq]; omega
 refine ⟨x.take (2*n+1),List.replicate (2*n+1) 0,syms_take sx _,sO,by rw [List.length_take]; omega,by simp,?_,?_⟩
 ·rw [List.getD_eq_getElem?_getD,List.getElem?_take,if_pos (by omega),← List.getD_eq_getElem?_getD,dx]
  simp [List.getD,show n<2*n+1 by omega]
 ·refine ext_getD (by rw [imgP_length,imgP_length,List.length_take]; simp; omega) fun j hj=>?_
  rw [imgP_length,List.length_take] at hj
  rw [imgP_getD _ _ _ _ _ (by rw [List.length_take]; omega),imgP_getD _ _ _ _ _ (by simp; omega)]
  have e1:((x.take (2*n+1)).drop j).take (2*R+1)=(x.drop j).take (2*R+1):=by rw [List.drop_take,List.take_take,Nat.min_eq_left (by omega)]
  rw [e1,ax j (by omega),List.drop_replicate,List.take_replicate]
  congr 1
  have key:∀ m,numW K (List.replicate m (0:Int))=0:=fun m=>by
   induction m with
   | zero=>rfl
   | succ m ih=>rw [List.replicate_succ',numW_snoc,ih]; simp
  exact (key _).symm
open Go.RowKit
set_option maxRecDepth 100000
set_option maxHeartbeats 8000000
def sLab:ByteArray:=⟨#[108,97,98]⟩
abbrev zRep:Value:=.agg #[.int .i64 0,.slice none 0 0,.bool false,.bool false,.int .i64 0,.bool false,.slice none 0 0,.bool false,.bool false]
structure Cells9 (w:World) (g:Nat) (v0 v1 v2 v3 v4 v5 v6 v7 v8:Value):Prop where
 c0:w.cell? ⟨g,0,none⟩=some v0
 c1:w.cell? ⟨g,1,none⟩=some v1
 c2:w.cell? ⟨g,2,none⟩=some v2
 c3:w.cell? ⟨g,3,none⟩=some v3
 c4:w.cell? ⟨g,4,none⟩=some v4
 c5:w.cell? ⟨g,5,none⟩=some v5
 c6:w.cell? ⟨g,6,none⟩=some v6
 c7:w.cell? ⟨g,7,none⟩=some v7
 c8:w.cell? ⟨g,8,none⟩=some v8
theorem Cells9.below {w w':World} {g:Nat} {v0 v1 v2 v3 v4 v5 v6 v7 v8:Value} (h:Cells9 w g v0 v1 v2 v3 v4 v5 v6 v7 v8) (hb:Below w.heap.size w w'):Cells9 w' g v0 v1 v2 v3 v4 v5 v6 v7 v8 :=
 ⟨cell_keep hb h.c0,cell_keep hb h.c1,cell_keep hb h.c2,cell_keep hb h.c3,cell_keep hb h.c4,cell_keep hb h.c5,cell_keep hb h.c6,cell_keep hb h.c7,cell_keep hb h.c8⟩
theorem Cells9.alloc (w:World) (T:TypeId) (v0 v1 v2 v3 v4 v5 v6 v7 v8:Value):Cells9 (w.alloc (.cells #[v0,v1,v2,v3,v4,v5,v6,v7,v8] T)) w.heap.size v0 v1 v2 v3 v4 v5 v6 v7 v8:=by
 refine ⟨?_,?_,?_,?_,?_,?_,?_,?_,?_⟩<;>simp [go_sem]
theorem look_bad (r:Nat→Addr) (k R:Int) (va:Option Addr) (vn vc:Nat) (T:List Int) (t:Int×List (ByteArray×Int)) (w:World) (hg:Glob r w) (h:IntsAt w (.slice va vn vc) T) (hc:smallP k R T=some t) :
 Calls Tryz.prog 23 #[.agg #[.int .i64 k,.int .i64 R,.slice va vn vc]] w (Ret2 (fun x y w'=>x=zRep∧ErrIs r w' (under sLab 0 (some t)) y) w):=by
 have b0:=belowAlloc w (.cells #[.int .i64 k,.int .i64 R,.slice va vn vc] 24)
 have b1:=belowAlloc (w.alloc (.cells #[.int .i64 k,.int .i64 R,.slice va vn vc] 24)) (.cells #[.int .i64 0,.slice none 0 0,.bool false,.bool false,.int .i64 0,.bool false,.slice none 0 0,.bool false,.bool false] 46)
 have b01:=Below.step b0 b1
 have q:Box3 (w.alloc (.cells #[.int .i64 k,.int .i64 R,.slice va vn vc] 24)) w.heap.size (.int .i64 k) (.int .i64 R) (.slice va vn vc):=by simp [Box3,go_sem]
 replace q:=q.below b1
 obtain ⟨f1,hR1,n42,-⟩:=((Rows.void w.heap.size w).below b0).mkN (42,0) (by simp) 46 9 #[.int .i64 0,.slice none 0 0,.bool false,.bool false,.int .i64 0,.bool false,.slice none 0 0,.bool false,.bool false] rfl
 have hsz:(w.alloc (.cells #[.int .i64 k,.int .i64 R,.slice va vn vc] 24)).heap.size=w.heap.size+1:=by simp
 rw [hsz] at n42
 obtain ⟨w1,hw1⟩:∃ W:World,(w.alloc (.cells #[.int .i64 k,.int .i64 R,.slice va vn vc] 24)).alloc (.cells #[.int .i64 0,.slice none 0 0,.bool false,.bool false,.int .i64 0,.bool false,.slice none 0 0,.bool false,.bool false] 46)=W:=⟨_,rfl⟩
 rw [hw1] at q b01 hR1
 replace hg:=Hd (hg.below b01)
 replace h:=Hd (h.below b01)
 replace hc:=Hd hc
 replace hR1:=Hd hR1
 obtain ⟨o,ho⟩:∃ o,w.heap.size+1=o:=⟨_,rfl⟩
 rw [ho] at n42
 replace ho:=Hd ho
 replace n42:=Hd n42
 replace hw1:=Hd hw1
 clear b0 b1 hsz
 obtain ⟨⟨z0,z1,z2⟩,-,-,-⟩:=q
 go_enter Tryz.func23,Tryz.ntmps23
 go_upto_region 1 with fail
 rw [hw1.out,ho.out]
 go_wp2_with fail
 refine (small_any r k R va vn vc T w1 hg.out h.out).mono ?_
 rintro e w2 ⟨x,rfl,b2,he⟩
 rw [hc.out] at he
 obtain ⟨T2,p2,rfl⟩:=he.some_shape
 clear z0 z1 z2
 have b12:=Below.step b01 b2
 have hund:=under_any r sLab 0 (some t) _ w2 he
 replace he:=Hd he
 go_wp2_with fail
 refine hund.mono ?_
 rintro e w3 ⟨y,rfl,b3,hy⟩
 clear hund
 have b13:=Below.step b12 b3
 have R3:=(hR1.out.below b2).below b3
 have co0:=R3.cellN n42.out 0 (by decide)
 have cf0:=R3.frzN n42.out 0
 have co1:=R3.cellN n42.out 1 (by decide)
 have cf1:=R3.frzN n42.out 1
 have co2:=R3.cellN n42.out 2 (by decide)
 have cf2:=R3.frzN n42.out 2
 have co3:=R3.cellN n42.out 3 (by decide)
 have cf3:=R3.frzN n42.out 3
 have co4:=R3.cellN n42.out 4 (by decide)
 have cf4:=R3.frzN n42.out 4
 have co5:=R3.cellN n42.out 5 (by decide)
 have cf5:=R3.frzN n42.out 5
 have co6:=R3.cellN n42.out 6 (by decide)
 have cf6:=R3.frzN n42.out 6
 have co7:=R3.cellN n42.out 7 (by decide)
 have cf7:=R3.frzN n42.out 7
 have co8:=R3.cellN n42.out 8 (by decide)
 have cf8:=R3.frzN n42.out 8
 have lo:=(R3.lowN n42.out).1
 have bF:=(((((((((b13.setCell (p:=⟨o,0,none⟩) lo (.int .i64 0)).setCell (p:=⟨o,1,none⟩) lo (.slice none 0 0)).setCell (p:=⟨o,2,none⟩) lo (.bool false)).setCell (p:=⟨o,3,none⟩) lo (.bool false)).setCell (p:=⟨o,4,none⟩) lo (.int .i64 0)).setCell (p:=⟨o,5,none⟩) lo (.bool false)).setCell (p:=⟨o,6,none⟩) lo (.slice none 0 0)).setCell (p:=⟨o,7,none⟩) lo (.bool false)).setCell (p:=⟨o,8,none⟩) lo (.bool false))
 obtain ⟨g0,Q0,m0,-⟩:=R3.stN n42.out 0 (.int .i64 0)
 obtain ⟨g1,Q1,m1,-⟩:=Q0.stN m0 1 (.slice none 0 0)
 obtain ⟨g2,Q2,m2,-⟩:=Q1.stN m1 2 (.bool false)
 obtain ⟨g3,Q3,m3,-⟩:=Q2.stN m2 3 (.bool false)
 obtain ⟨g4,Q4,m4,-⟩:=Q3.stN m3 4 (.int .i64 0)
 obtain ⟨g5,Q5,m5,-⟩:=Q4.stN m4 5 (.bool false)
 obtain ⟨g6,Q6,m6,-⟩:=Q5.stN m5 6 (.slice none 0 0)
 obtain ⟨g7,Q7,m7,-⟩:=Q6.stN m6 7 (.bool false)
 obtain ⟨g8,Q8,m8,-⟩:=Q7.stN m7 8 (.bool false)
 have hyF:ErrIs r (((((((((w3.setCell ⟨o,0,none⟩ (.int .i64 0)).setCell ⟨o,1,none⟩ (.slice none 0 0)).setCell ⟨o,2,none⟩ (.bool false)).setCell ⟨o,3,none⟩ (.bool false)).setCell ⟨o,4,none⟩ (.int .i64 0)).setCell ⟨o,5,none⟩ (.bool false)).setCell ⟨o,6,none⟩ (.slice none 0 0)).setCell ⟨o,7,none⟩ (.bool false)).setCell ⟨o,8,none⟩ (.bool false)) (under sLab 0 (some t)) y:=by
  have cs:∀ (W:World) (f:Names) (cs:List Value) (c0:∀ s,cs[0]?≠some (.string s)) (R:Rows w.heap.size W f) (n:f (42,0)=some (boxN 46 9 o cs)) (k:Nat) (u:Value),ErrIs r W (under sLab 0 (some t)) y→ErrIs r (W.setCell ⟨o,k,none⟩ u) (under sLab 0 (some t)) y:=fun W f cs c0 R n k u h=>h.set (b:=o) (i:=k) (fun s q=>c0 s ((R.cellN n 0 (by decide)).symm.trans q)) u
  exact (cs _ _ _ (by intro s q; simp at q) Q7 m7 8 _ (cs _ _ _ (by intro s q; simp at q) Q6 m6 7 _ (cs _ _ _ (by intro s q; simp at q) Q5 m5 6 _ (cs _ _ _ (by intro s q; simp at q) Q4 m4 5 _ (cs _ _ _ (by intro s q; simp at q) Q3 m3 4 _ (cs _ _ _ (by intro s q; simp at q) Q2 m2 3 _ (cs _ _ _ (by intro s q; simp at q) Q1 m1 2 _ (cs _ _ _ (by intro s q; simp at q) Q0 m0 1 _ (cs _ _ _ (by intro s q; simp at q) R3 n42.out 0 _ hy)))))))))
 obtain ⟨WF,hWF⟩:∃ W:World,(((((((((w3.setCell ⟨o,0,none⟩ (.int .i64 0)).setCell ⟨o,1,none⟩ (.slice none 0 0)).setCell ⟨o,2,none⟩ (.bool false)).setCell ⟨o,3,none⟩ (.bool false)).setCell ⟨o,4,none⟩ (.int .i64 0)).setCell ⟨o,5,none⟩ (.bool false)).setCell ⟨o,6,none⟩ (.slice none 0 0)).setCell ⟨o,7,none⟩ (.bool false)).setCell ⟨o,8,none⟩ (.bool false))=W:=⟨_,rfl⟩
 rw [hWF] at bF hyF Q8
 have cr0:=Hd (Q8.cellN m8 0 (by decide))
 have cr1:=Hd (Q8.cellN m8 1 (by decide))
 have cr2:=Hd (Q8.cellN m8 2 (by decide))
 have cr3:=Hd (Q8.cellN m8 3 (by decide))
 have cr4:=Hd (Q8.cellN m8 4 (by decide))
 have cr5:=Hd (Q8.cellN m8 5 (by decide))
 have cr6:=Hd (Q8.cellN m8 6 (by decide))
 have cr7:=Hd (Q8.cellN m8 7 (by decide))
 have cr8:=Hd (Q8.cellN m8 8 (by decide))
 replace hyF:=Hd hyF
 replace hWF:=Hd hWF
 replace bF:=Hd bF
 clear R3 n42 hR1 hg h hy he Q0 m0 Q1 m1 Q2 m2 Q3 m3 Q4 m4 Q5 m5 Q6 m6 Q7 m7 Q8 m8 b01 b2 b12 b3 b13 lo
 obtain ⟨T3,p3,rfl⟩:∃ T a,y=.iface T (.pointer (some a)):=by
  have hh:=hyF.out
  unfold under at hh
  exact hh.some_shape
 go_wp2
 rw [hWF.out]
 exact bodyPost_ret (v:=.tuple #[zRep,.iface T3 (.pointer (some p3))]) (by simp [results,Tryz.results23,go_sem,cr0.out,cr1.out,cr2.out,cr3.out,cr4.out,cr5.out,cr6.out,cr7.out,cr8.out]) rfl ⟨_,_,rfl,bF.out,rfl,hyF.out⟩
def kindB (Y F:Bool):ByteArray:=if Y=true then ⟨#[114,101,118,101,114,115,105,98,108,101]⟩ else if F=true then ⟨#[111,110,116,111]⟩ else ⟨#[108,111,115,115,121]⟩
theorem kind_any (v0 v1 v4 v5 v6 v7 v8:Value) (Y F:Bool) (w:World) :
 Calls Tryz.prog 31 #[.agg #[v0,v1,.bool Y,.bool F,v4,v5,v6,v7,v8]] w (Ret1 (fun x _=>x=.string (kindB Y F)) w):=by
 have b0:=belowAlloc w (.cells #[v0,v1,.bool Y,.bool F,v4,v5,v6,v7,v8] 46)
 cases Y<;>cases F<;>(go_enter Tryz.func31,Tryz.ntmps31; go_wp2; go_ret; exact ⟨_,rfl,b0,rfl⟩)
theorem heavy26 (r:Nat→Addr) (k R:Int) (va:Option Addr) (vn vc:Nat) (T:List Int) (w:World) (hg:Glob r w) (h:IntsAt w (.slice va vn vc) T) :
 Calls Tryz.prog 22 #[.agg #[.int .i64 k,.int .i64 R,.slice va vn vc]] w (Ret1 (fun x _=>∃ b,x=.bool b∧(b=true↔64<T.length∧smallP k R T=none)) w):=by
 have b0:=belowAlloc w (.cells #[.int .i64 k,.int .i64 R,.slice va vn vc] 24)
 have q:Box3 (w.alloc (.cells #[.int .i64 k,.int .i64 R,.slice va vn vc] 24)) w.heap.size (.int .i64 k) (.int .i64 R) (.slice va vn vc):=by simp [Box3,go_sem]
 have lT:=h.len
 obtain ⟨tl,htl⟩:∃ t,T.length=t:=⟨_,rfl⟩
 rw [htl] at lT ⊢
 replace htl:=Hd htl
 replace hg:=Hd (hg.below b0)
 replace h:=Hd (h.below b0)
 obtain ⟨⟨z0,z1,z2⟩,-,-,-⟩:=q
 by_cases c:64<tl
 ·have d:decide (64<(tl:Int))=true:=decide_eq_true (by omega)
  have d':decide ((tl:Int)>64)=true:=decide_eq_true (by omega)
  go_enter Tryz.func22,Tryz.ntmps22
  go_wp2_with fail
  refine (small_any r k R va vn vc T _ hg.out h.out).mono ?_
  rintro e w1 ⟨x,rfl,b1,he⟩
  have b01:=Below.step b0 b1
  clear z0 z1 z2
  cases hc:smallP k R T with
  | none =>
   rw [hc] at he
   obtain rfl:=he.none_eq
   clear he
   go_wp2
   go_ret
   exact ⟨_,rfl,b01,true,rfl,⟨fun _=>⟨c,hc⟩,fun _=>rfl⟩⟩
  | some t =>
   rw [hc] at he
   obtain ⟨T4,p4,rfl⟩:=he.some_shape
   clear he
   go_wp2
   go_ret
   exact ⟨_,rfl,b01,false,rfl,⟨fun q=>(by cases q),fun q=>(by rw [hc] at q; cases q.2)⟩⟩
 ·have d:decide (64<(tl:Int))=false:=decide_eq_false (by omega)
  have d':decide ((tl:Int)>64)=false:=decide_eq_false (by omega)
  go_enter Tryz.func22,Tryz.ntmps22
  go_wp2
  go_ret
  exact ⟨_,rfl,b0,false,rfl,⟨fun q=>(by cases q),fun q=>absurd q.1 c⟩⟩
theorem beq_refl_bool (b:Bool):(b==b)=true:=by cases b<;>rfl
theorem same_eq (n ρ:Int) (Y F S L P:Bool) (a1:Option Addr) (a2 a3:Nat) (b1:Option Addr) (b2 b3:Nat) (c1:Option Addr) (c2 c3:Nat) (d1:Option Addr) (d2 d3:Nat) (l m:List Int) (w:World)
 (hA:IntsAt w (.slice a1 a2 a3) l) (hB:IntsAt w (.slice b1 b2 b3) m) (hC:IntsAt w (.slice c1 c2 c3) l) (hD:IntsAt w (.slice d1 d2 d3) m) :
 Calls Tryz.prog 24 #[.agg #[.int .i64 n,.slice a1 a2 a3,.bool Y,.bool F,.int .i64 ρ,.bool S,.slice b1 b2 b3,.bool L,.bool P],.agg #[.int .i64 n,.slice c1 c2 c3,.bool Y,.bool F,.int .i64 ρ,.bool S,.slice d1 d2 d3,.bool L,.bool P]] w (Ret1 (fun x _=>x=.bool true) w):=by
 have e0:=Below.step (belowAlloc w (.cells #[.int .i64 n,.slice a1 a2 a3,.bool Y,.bool F,.int .i64 ρ,.bool S,.slice b1 b2 b3,.bool L,.bool P] 46)) (belowAlloc _ (.cells #[.int .i64 n,.slice c1 c2 c3,.bool Y,.bool F,.int .i64 ρ,.bool S,.slice d1 d2 d3,.bool L,.bool P] 46))
 have qa:=(Cells9.alloc w 46 (.int .i64 n) (.slice a1 a2 a3) (.bool Y) (.bool F) (.int .i64 ρ) (.bool S) (.slice b1 b2 b3) (.bool L) (.bool P)).below (belowAlloc _ (.cells #[.int .i64 n,.slice c1 c2 c3,.bool Y,.bool F,.int .i64 ρ,.bool S,.slice d1 d2 d3,.bool L,.bool P] 46))
 have qb:=Cells9.alloc (w.alloc (.cells #[.int .i64 n,.slice a1 a2 a3,.bool Y,.bool F,.int .i64 ρ,.bool S,.slice b1 b2 b3,.bool L,.bool P] 46)) 46 (.int .i64 n) (.slice c1 c2 c3) (.bool Y) (.bool F) (.int .i64 ρ) (.bool S) (.slice d1 d2 d3) (.bool L) (.bool P)
 rw [show (w.alloc (.cells #[.int .i64 n,.slice a1 a2 a3,.bool Y,.bool F,.int .i64 ρ,.bool S,.slice b1 b2 b3,.bool L,.bool P] 46)).heap.size=w.heap.size+1 by simp] at qb
 obtain ⟨w0,hw0⟩:∃ W:World,(w.alloc (.cells #[.int .i64 n,.slice a1 a2 a3,.bool Y,.bool F,.int .i64 ρ,.bool S,.slice b1 b2 b3,.bool L,.bool P] 46)).alloc (.cells #[.int .i64 n,.slice c1 c2 c3,.bool Y,.bool F,.int .i64 ρ,.bool S,.slice d1 d2 d3,.bool L,.bool P] 46)=W:=⟨_,rfl⟩
 rw [hw0] at e0 qa qb
 have iA:=ints_any _ _ l l _ (hA.below e0) (hC.below e0)
 replace hB:=Hd (hB.below e0)
 replace hD:=Hd (hD.below e0)
 rw [show decide (l=l)=true from decide_eq_true rfl] at iA
 have y1:=beq_refl_bool Y
 have y2:=beq_refl_bool F
 have y3:=beq_refl_bool S
 have y4:=beq_refl_bool L
 have y5:=beq_refl_bool P
 replace hw0:=Hd hw0
 obtain ⟨z0,z1,z2,z3,z4,z5,z6,z7,z8⟩:=id qa
 obtain ⟨u0,u1,u2,u3,u4,u5,u6,u7,u8⟩:=id qb
 clear hA hC
 go_enter Tryz.func24,Tryz.ntmps24
 go_upto_region 1 with fail
 rw [hw0.out]
 go_wp2_with fail
 refine iA.mono ?_
 rintro e w1 hq
 obtain ⟨rfl,e1⟩:=hq.below
 clear hq iA z0 z1 z2 z3 z4 z5 z6 z7 z8 u0 u1 u2 u3 u4 u5 u6 u7 u8
 obtain ⟨z0,z1,z2,z3,z4,z5,z6,z7,z8⟩:=qa.below e1
 obtain ⟨u0,u1,u2,u3,u4,u5,u6,u7,u8⟩:=qb.below e1
 have iB:=ints_any _ _ m m _ (hB.out.below e1) (hD.out.below e1)
 rw [show decide (m=m)=true from decide_eq_true rfl] at iB
 go_wp2_with fail
 refine iB.mono ?_
 rintro e w2 hq
 obtain ⟨rfl,e2⟩:=hq.below
 clear hq iB z0 z1 z2 z3 z4 z5 z6 z7 z8 u0 u1 u2 u3 u4 u5 u6 u7 u8
 have e12:=Below.step e1 e2
 obtain ⟨z0,z1,z2,z3,z4,z5,z6,z7,z8⟩:=qa.below e12
 obtain ⟨u0,u1,u2,u3,u4,u5,u6,u7,u8⟩:=qb.below e12
 have bE:=Below.step e0 e12
 go_wp2
 go_ret
 exact ⟨_,rfl,bE,rfl⟩
def tab26:List Int:=[0,1,0,1,1,0,1,0]
theorem tab26_ok:RuleOk 2 1 tab26:=⟨by decide,by decide,by decide,by decide,by intro x hx; simp [tab26] at hx; omega⟩
theorem tab26_u1:unlikeP 2 tab26 1=true:=by decide +kernel
theorem tab26_u4:unlikeP 2 tab26 (tab26.length/2)=true:=by decide +kernel
theorem tab26_not:NotOne 2 1 tab26:=sides_not_one tab26_ok tab26_u4 tab26_u1 (by decide) (by decide)
theorem tab26_on:ontoN (subR 2 (pw 2 (2*1)) tab26)=1:=by decide +kernel
theorem tab26_rad:radL 2 1 tab26=-1:=by
 unfold radL
 rw [(invE_ok tab26_ok (by decide)).1 tab26_not,if_neg (by unfold fresh; simp)]
theorem awake26 (r:Nat→Addr) (w:World) (hg:Glob r w) (hG:GlobE w):Calls Tryz.prog 21 #[] w (Ret1 (fun x _=>x=.bool true) w):=by
 have bl:=belowAlloc w (.cells #[.int .i64 0,.int .i64 1,.int .i64 0,.int .i64 1,.int .i64 1,.int .i64 0,.int .i64 1,.int .i64 0] 3)
 have hlit:=lit_ints w tab26 #[.int .i64 0,.int .i64 1,.int .i64 0,.int .i64 1,.int .i64 1,.int .i64 0,.int .i64 1,.int .i64 0] rfl (by decide)
 replace hg:=hg.below bl
 replace hG:=hG.below bl
 have look:=look_ok r 2 1 (some ⟨w.heap.size,0,none⟩) 8 8 tab26 _ hg hG hlit tab26_ok (by decide)
 clear hlit
 replace hg:=Hd hg
 replace hG:=Hd hG
 go_enter Tryz.func21,Tryz.ntmps21
 go_wp2_with fail
 refine look.mono ?_
 clear look
 rintro e w2 ⟨_,_,rfl,b2,rfl,Y,F,a1,a2,a3,b1,c2,c3,hY,hF,rfl,-,-,-⟩
 obtain rfl:Y=false:=by
  cases Y with
  | false=>rfl
  | true=>exact absurd tab26_not (hY.1 rfl)
 obtain rfl:F=true:=hF.2 (side_no_twins tab26_ok (.inl tab26_u4))
 rw [tab26_on,tab26_rad,tab26_u4,tab26_u1]
 obtain ⟨S,hS⟩:∃ S,isSum 2 1 tab26=S:=⟨_,rfl⟩
 rw [hS]
 clear hS hY hF
 have b3:=belowAlloc w2 (.cells #[.int .i64 1,.slice a1 a2 a3,.bool false,.bool true,.int .i64 (-1),.bool S,.slice b1 c2 c3,.bool true,.bool true] 46)
 have q:=Cells9.alloc w2 46 (.int .i64 1) (.slice a1 a2 a3) (.bool false) (.bool true) (.int .i64 (-1)) (.bool S) (.slice b1 c2 c3) (.bool true) (.bool true)
 have bE:=Below.step bl (Below.step b2 b3)
 obtain ⟨z0,z1,z2,z3,z4,z5,z6,z7,z8⟩:=q
 go_wp2_with fail
 refine (kind_any _ _ _ _ _ _ _ _ _ _).mono ?_
 rintro e w4 ⟨_,rfl,b4,rfl⟩
 have bF:=Below.step bE b4
 rw [show kindB false true=⟨#[111,110,116,111]⟩ from rfl]
 go_wp2
 go_ret
 exact ⟨_,rfl,bF,rfl⟩
end Go.Proofs.YtncpnaoabkjegaaGreatDoor
namespace Go.Proofs.YtncpnaoabkjegaaGreatDoor
open Go.RowKit
structure DN (f:Names) (d:Nat) (hd:List Value) (A:Value) (az:List Value) (L N most:Nat) (M:Nat→List Bool) (lv:Value) (ls:List Value) (LS:List (List Int)) (more:Bool):Prop where
 box:f (0,0)=some ⟨214,8,.slice (some ⟨d,0,none⟩) 1 1,1,hd++[lv,.bool more]⟩
 hd6:hd.length=6
 outer:f (5,0)=some (rowV 178 A az)
 aslen:az.length=L
 marks:∀ i,i<L→f (2,i)=some (rowV 4 (vAt az i) ((M i).map Value.bool))∧(M i).length=N
 list:f (1,0)=some (rowV 22 lv ls)
 llen:ls.length=LS.length
 items:∀ j,j<ls.length→f (3,j)=some (rowI (vAt ls j) (LS.getD j []))
 lmost:LS.length≤most
section
variable {B:Nat} {w:World} {f f':Names} {d:Nat} {hd:List Value} {A:Value} {az:List Value} {L N most:Nat} {M:Nat→List Bool} {lv:Value} {ls:List Value} {LS:List (List Int)} {more:Bool}
theorem DN.congr (h:DN f d hd A az L N most M lv ls LS more) (e:∀ i,i.1≠4→f' i=f i):DN f' d hd A az L N most M lv ls LS more :=
 ⟨(e _ (by decide)).trans h.box,h.hd6,(e _ (by decide)).trans h.outer,h.aslen,fun i hi=>⟨(e _ (by simp)).trans (h.marks i hi).1,(h.marks i hi).2⟩,(e _ (by decide)).trans h.list,h.llen,fun j hj=>(e _ (by simp)).trans (h.items j hj),h.lmost⟩
theorem DN.cellH (h:DN f d hd A az L N most M lv ls LS more) (hr:Rows B w f) (k:Nat) (hk:k<6):w.cell? ⟨d,k,none⟩=hd[k]?:=by
 have:=hr.cell h.box (g:=d) (cap:=1) rfl k (by simp; omega)
 rw [this,List.getElem?_append_left (by rw [h.hd6]; exact hk)]
theorem DN.cell6 (h:DN f d hd A az L N most M lv ls LS more) (hr:Rows B w f):w.cell? ⟨d,6,none⟩=some lv:=by
 have:=hr.cell h.box (g:=d) (cap:=1) rfl 6 (by simp)
 rw [this,List.getElem?_append_right (by rw [h.hd6]; decide),h.hd6]; rfl
theorem DN.cell7 (h:DN f d hd A az L N most M lv ls LS more) (hr:Rows B w f):w.cell? ⟨d,7,none⟩=some (.bool more):=by
 have:=hr.cell h.box (g:=d) (cap:=1) rfl 7 (by simp)
 rw [this,List.getElem?_append_right (by rw [h.hd6]; decide),h.hd6]; rfl
theorem DN.frz (h:DN f d hd A az L N most M lv ls LS more) (hr:Rows B w f) (k:Nat):w.frozen? ⟨d,k,none⟩=false:=hr.frozen h.box (g:=d) (cap:=1) rfl k
theorem DN.base (h:DN f d hd A az L N most M lv ls LS more) (hr:Rows B w f):B≤d:=(hr.lt h.box d rfl).1
theorem DN.setMore (h:DN f d hd A az L N most M lv ls LS more) (hr:Rows B w f):∃ f',Rows B (w.setCell ⟨d,7,none⟩ (.bool true)) f'∧DN f' d hd A az L N most M lv ls LS true∧∀ i,i≠(0,0)→f' i=f i:=by
 refine ⟨_,hr.set h.box (g:=d) (cap:=1) rfl 7 (.bool true),⟨?_,h.hd6,?_,h.aslen,fun i hi=>?_,?_,h.llen,fun j hj=>?_,h.lmost⟩,fun i hi=>upd_ne _ _ hi⟩
 ·rw [upd_same,List.set_append_right _ _ (by rw [h.hd6]; decide),h.hd6]; rfl
 ·rw [upd_ne _ _ (by decide)]; exact h.outer
 ·rw [upd_ne _ _ (by simp)]; exact h.marks i hi
 ·rw [upd_ne _ _ (by decide)]; exact h.list
 ·rw [upd_ne _ _ (by simp)]; exact h.items j hj
theorem DN.mark (h:DN f d hd A az L N most M lv ls LS more) (hr:Rows B w f) (i:Nat) (hi:i<L) (node:Nat) (hn:node<N) (b:Bool) :
 ∃ f',Rows B (w.setCell (valAt (vAt az i) node) (.bool b)) f'∧DN f' d hd A az L N most (fun j=>if j=i then (M i).set node b else M j) lv ls LS more∧∀ j,j≠(2,i)→f' j=f j:=by
 have hm:=h.marks i hi
 refine ⟨_,hr.setV hm.1 node (by simp; omega) (.bool b),⟨?_,h.hd6,?_,h.aslen,fun j hj=>?_,?_,h.llen,fun j hj=>?_,h.lmost⟩,fun j hj=>upd_ne _ _ hj⟩
 ·rw [upd_ne _ _ (by simp)]; exact h.box
 ·rw [upd_ne _ _ (by simp)]; exact h.outer
 ·by_cases e:j=i
  ·subst e
   rw [upd_same]
   simp [hm.2,List.map_set]
  ·rw [upd_ne _ _ (by simp [e])]; simp only [if_neg e]; exact h.marks j hj
 ·rw [upd_ne _ _ (by simp)]; exact h.list
 ·rw [upd_ne _ _ (by simp)]; exact h.items j hj
theorem DN.pushed (h:DN f d hd A az L N most M lv ls LS more) (x lv':Value) (xs:List Int) (hl:LS.length<most) :
 DN (upd (upd (upd f (3,ls.length) (some (rowI x xs))) (1,0) (some (rowV 22 lv' (ls++[x])))) (0,0) (some ⟨214,8,.slice (some ⟨d,0,none⟩) 1 1,1,hd++[lv',.bool more]⟩)) d hd A az L N most M lv' (ls++[x]) (LS++[xs]) more:=by
 refine ⟨upd_same _ _ _,h.hd6,?_,h.aslen,fun i hi=>?_,?_,by simp [h.llen],fun j hj=>?_,by simp; omega⟩
 ·rw [upd_ne _ _ (by simp),upd_ne _ _ (by simp),upd_ne _ _ (by simp)]; exact h.outer
 ·rw [upd_ne _ _ (by simp),upd_ne _ _ (by simp),upd_ne _ _ (by simp)]; exact h.marks i hi
 ·rw [upd_ne _ _ (by simp),upd_same]
 ·rw [upd_ne _ _ (by simp),upd_ne _ _ (by simp)]
  by_cases e:j=ls.length
  ·subst e
   rw [upd_same]
   simp [vAt,List.getD,h.llen]
  ·have hjl:j<ls.length:=by simp at hj; omega
   rw [upd_ne _ _ (by simp [e]),h.items j hjl]
   have:j<LS.length:=by rw [← h.llen]; exact hjl
   simp [vAt,List.getD,List.getElem?_append_left,hjl,this]
theorem DN.listV (h:DN f d hd A az L N most M lv ls LS more) (hr:Rows B w f):OwnV 22 B w lv ls:=hr.ownV h.list
theorem DN.outerV (h:DN f d hd A az L N most M lv ls LS more) (hr:Rows B w f):OwnV 178 B w A az:=hr.ownV h.outer
theorem DN.marksV (h:DN f d hd A az L N most M lv ls LS more) (hr:Rows B w f) (i:Nat) (hi:i<L):OwnV 4 B w (vAt az i) ((M i).map Value.bool):=hr.ownV (h.marks i hi).1
end
def Sound (K N:Nat) (T ws:List Int) (M:Nat→List Bool):Prop:=∀ i node,i<ws.length→(M i)[node]?=some true→compl K N T node (ws.drop i)=[]
theorem Sound.mark {K N:Nat} {T ws:List Int} {M:Nat→List Bool} (h:Sound K N T ws M) (i node:Nat) (b:Bool) (hb:b=true→compl K N T node (ws.drop i)=[]):Sound K N T ws (fun j=>if j=i then (M i).set node b else M j):=by
 intro j m hj hm
 by_cases e:j=i
 ·subst e
  simp only [if_true] at hm
  rw [List.getElem?_set] at hm
  split at hm
  ·rename_i e
   subst e
   split at hm
   ·injection hm with hm; exact hb hm
   ·cases hm
  ·exact h j m hj hm
 ·simp only [if_neg e] at hm
  exact h j m hj hm
set_option maxRecDepth 100000
set_option maxHeartbeats 8000000
theorem below_drewND (B:Nat) (w:World) (n:Nat):Below B w (w.drewN n).drew:=⟨rfl,rfl,rfl,Nat.le_refl _,fun _ _=>rfl⟩
theorem OwnI.one {B:Nat} {w:World} {v:Value} {xs:List Int} (h:OwnI B w v xs):v.oneCell'=true:=by
 obtain ⟨a,n,c,rfl⟩:=h.at.shape; rfl
theorem step_app1L {ops:Array Oper} {o:Oper} {a:Act} {w:World} {K:Act→World→Prop} {Q:Exit→Act→World→Prop} {Ep:Prop} (hw:Region.wanted o (yielded ops a.tmps)=true) (s x:Operand)
 (ho:o.op=.call { callee:=.builtin .append,args:=#[s,x],argTypes:=#[76,76] })
 (B:Nat) (v:Value) (vs:List Value) (y:Value) (b:Nat) (hs:a.eval s=v) (hx:a.eval x=.slice (some ⟨b,0,none⟩) 1 1) (hb:b=w.heap.size) (hown:OwnV 22 B w v vs)
 (hlen:vs.length<4398046511104) (hy:y.oneCell'=true) (hB:B≤w.heap.size)
 (h:∀ v' w',OwnV 22 B w' v' (vs++[y])→((v'.ownBlock=v.ownBlock∧w.grownBy w' v.ownBlock)∨(∃ k,v'.ownBlock=some k∧w.heap.size≤k∧w.grownBy w' none))→K (a.put o.dst v') w') :
 if Region.wanted o (yielded ops a.tmps)=true then Oper.wp Tryz.prog o a (w.alloc (.cells #[y] 22)) K Q else Ep:=by
 rw [if_pos hw]
 subst hb
 obtain ⟨v',w',hr,h2,h3⟩:=run_app oneLists (w.alloc (.cells #[y] 22)) B o.type v _ (hown.alloc _) ⟨w.heap.size,0,none⟩ 1 [y] (by simp) (cell_one_new _ _ _) (by simpa using hy) (by simp; omega) (by simp; omega)
 rw [show ([y]:List Value).length=1 from rfl] at hr
 have hal:∀ row,w.grownBy (w.alloc (.cells #[y] 22)) row:=fun row=>World.grownBy_alloc w _ row
 have hK:K (a.put o.dst v') w':=by
  refine h v' w' (by simpa using h2) ?_
  rcases h3 with ⟨hroom,hg⟩ | ⟨hk,hg⟩
  ·obtain ⟨a1,n1,c1,e1⟩:=hown.shape
   obtain ⟨a2,n2,c2,e2⟩:=h2.shape
   exact .inl ⟨ownBlock_of_room e1 e2 hroom,(hal v.ownBlock).trans hg⟩
  ·exact .inr ⟨_,hk,by simp,(hal none).trans hg⟩
 unfold Oper.wp
 simp [execOp,ho,resolve,invoke,builtin,hs,hx,hr,Result.andThen]
 exact hK
def OnPost (B K N:Nat) (T ws:List Int) (d:Nat) (hd:List Value) (A:Value) (az:List Value) (most:Nat) (f:Names) (LS C:List (List Int)) (i:Nat) (w:World) (e:Ending) (w':World):Prop :=
 ∃ ret f' M' lv' ls' LS' more',e=.returned ret∧Rows B w' f'∧Below B w w'∧DN f' d hd A az ws.length N most M' lv' ls' LS' more'∧Sound K N T ws M'∧(∀ k,k≤i→f' (4,k)=f (4,k)) ∧
  ((LS.length+C.length≤most∧LS'=LS++C∧more'=false∧ret=.bool (decide (C≠[])))∨(most<LS.length+C.length∧more'=true∧ret=.bool true))
section
variable {B:Nat} {w:World} {f:Names} {d:Nat} {hd:List Value} {A:Value} {az:List Value} {L N most:Nat} {M:Nat→List Bool} {lv:Value} {ls:List Value} {LS:List (List Int)} {more:Bool}
theorem push_rows {w1 w3:World} {x lv':Value} {xs:List Int} (D:DN f d hd A az L N most M lv ls LS more) (hr:Rows B w f) (b1:Below w.heap.size w w1) (hC:OwnI w.heap.size w1 x xs) (hBw:B≤w.heap.size) (hV3:OwnV 22 B w3 lv' (ls++[x]))
 (hg:(lv'.ownBlock=lv.ownBlock∧w1.grownBy w3 lv.ownBlock)∨(∃ k,lv'.ownBlock=some k∧w1.heap.size≤k∧w1.grownBy w3 none)) :
 Rows B w3 (upd (upd f (3,ls.length) (some (rowI x xs))) (1,0) (some (rowV 22 lv' (ls++[x]))))∧w3.cell? ⟨d,6,none⟩=some lv∧w3.frozen? ⟨d,6,none⟩=false∧Below B w w3:=by
 have h1:=hr.add (i:=(3,ls.length)) (r':=rowI x xs) b1 (hC.mono hBw) (fun k hk=>(hC.lt k hk).1)
 have hl1:upd f (3,ls.length) (some (rowI x xs)) (1,0)=some (rowV 22 lv ls):=by rw [upd_ne _ _ (by simp)]; exact D.list
 have hb1:upd f (3,ls.length) (some (rowI x xs)) (0,0)=some ⟨214,8,.slice (some ⟨d,0,none⟩) 1 1,1,hd++[lv,.bool more]⟩:=by rw [upd_ne _ _ (by simp)]; exact D.box
 have hgr:w1.grownBy w3 lv.ownBlock:=by
  rcases hg with h | ⟨k,_,_,h⟩
  ·exact h.2
  ·exact grown_any h _
 have h3:=h1.grown (r':=rowV 22 lv' (ls++[x])) hl1 hgr hV3 (by
  rcases hg with h | ⟨k,hk,hk2,_⟩
  ·exact .inl h.1
  ·exact .inr ⟨k,hk,hk2⟩)
 have hb3:upd (upd f (3,ls.length) (some (rowI x xs))) (1,0) (some (rowV 22 lv' (ls++[x]))) (0,0)=some ⟨214,8,.slice (some ⟨d,0,none⟩) 1 1,1,hd++[lv,.bool more]⟩:=by rw [upd_ne _ _ (by simp)]; exact hb1
 refine ⟨h3,?_,?_,?_⟩
 ·rw [h3.cell hb3 (g:=d) (cap:=1) rfl 6 (by simp)]
  rw [List.getElem?_append_right (by rw [D.hd6]; decide),D.hd6]; rfl
 ·exact h3.frozen hb3 (g:=d) (cap:=1) rfl 6
 ·exact (b1.mono hBw).trans ((Below.refl _ _).grown hgr (Nat.le_trans hBw b1.size) (fun k hk=>((D.listV hr).lt k hk).1))
theorem push_store {w3:World} {x lv':Value} {xs:List Int} (D:DN f d hd A az L N most M lv ls LS more)
 (h3:Rows B w3 (upd (upd f (3,ls.length) (some (rowI x xs))) (1,0) (some (rowV 22 lv' (ls++[x]))))) :
 Rows B (w3.setCell ⟨d,6,none⟩ lv') (upd (upd (upd f (3,ls.length) (some (rowI x xs))) (1,0) (some (rowV 22 lv' (ls++[x])))) (0,0) (some ⟨214,8,.slice (some ⟨d,0,none⟩) 1 1,1,hd++[lv',.bool more]⟩)):=by
 have hb3:upd (upd f (3,ls.length) (some (rowI x xs))) (1,0) (some (rowV 22 lv' (ls++[x]))) (0,0)=some ⟨214,8,.slice (some ⟨d,0,none⟩) 1 1,1,hd++[lv,.bool more]⟩:=by rw [upd_ne _ _ (by simp),upd_ne _ _ (by simp)]; exact D.box
 have:=h3.set hb3 (g:=d) (cap:=1) rfl 6 lv'
 simp only [] at this
 rw [List.set_append_right _ _ (by rw [D.hd6]; decide),D.hd6] at this
 exact this
theorem below_le {B:Nat} {w W w':World} (h:Below w.heap.size w W) (k:Below B W w') (hB:B≤w.heap.size):Below B w w':=(h.mono hB).trans k
end
theorem on_end (B K N R:Nat) (T ws:List Int) (d:Nat) (vT:Value) (ua:Option Addr) (un uc:Nat) (A:Value) (az:List Value) (most:Nat) (f:Names) (M:Nat→List Bool) (lv:Value) (ls:List Value) (LS:List (List Int)) (xv:Value) (xs:List Int) (node:Nat) (w:World)
 (hBW:B≤w.heap.size) (hr:Rows B w f) (hW:IntsAt w (.slice ua un uc) ws) (D:DN f d [.int .i64 K,.int .i64 R,vT,.slice ua un uc,A,.int .i64 most] A az ws.length N most M lv ls LS false) (hso:Sound K N T ws M)
 (hx:f (4,ws.length)=some (rowI xv xs)) (hxl:xs.length≤5000) (hm:most≤256) :
 Calls Tryz.prog 162 #[.pointer (some ⟨d,0,none⟩),xv,.int .i64 node,.int .i64 ws.length] w (OnPost B K N T ws d [.int .i64 K,.int .i64 R,vT,.slice ua un uc,A,.int .i64 most] A az most f LS ((compl K N T node (ws.drop ws.length)).map (xs++·)) ws.length w):=by
 rw [List.drop_length,show (compl K N T node []).map (xs++·)=[xs] by simp [compl]]
 have hX:=(hr.ownI hx).at
 have lw:=hW.len
 have hlm:=D.lmost
 have hll:=D.llen
 have lv6:=fun w'=>(D.listV hr).at.len oneLists 3 w'
 have z3:=D.cellH hr 3 (by decide)
 have z5:=D.cellH hr 5 (by decide)
 have z6:=D.cell6 hr
 have f6:=D.frz hr 6
 have f7:=D.frz hr 7
 have z7:=D.cell7 hr
 simp only [List.getElem?_cons_succ,List.getElem?_cons_zero] at z3 z5
 rw [hll] at lv6
 by_cases hlt:LS.length<most
 ·replace hX:=Hd hX
  replace hW:=Hd hW
  replace hso:=Hd hso
  go_enter Tryz.func162,Tryz.ntmps162
  go_wp2
  go_quiet (fail)
  go_wp2_with fail
  refine wp_region_plan (fun w'=>w'.cell? ⟨d,6,none⟩=some lv) 9 [(0,true),(1,true),(2,true),(3,true),(4,true),(5,true),(6,false),(7,false),(8,false)] (by kernel_rfl) (by kernel_rfl) ?_
  obtain ⟨W,hWe⟩:∃ W:World,W=(w.drewN nq).drew:=⟨_,rfl⟩
  rw [← hWe]
  have hS:W.cell? ⟨d,6,none⟩=some lv:=by rw [hWe]; exact z6
  have hrW:Rows B W f:=by rw [hWe]; exact (hr.drewN nq).drew
  have hXW:IntsAt W xv xs:=by rw [hWe]; exact hX.out.drew
  have hBw:Below w.heap.size w W:=by rw [hWe]; exact below_drewND _ _ _
  have hf7:=z7
  have hsW:B≤W.heap.size:=Nat.le_trans hBW hBw.size
  clear hWe
  refine pqY 29 hS ?_
  refine pqY 30 hS ?_
  refine pqY 31 hS ?_
  refine pqY 32 hS ?_
  refine pqY 33 hS ?_
  refine pqY 34 hS ?_
  refine headC rfl (fun KK hK=>?_)
  go_simp
  refine (clone_any xv xs _ hXW (by omega)).mono ?_
  rintro e W1 ⟨x,rfl,b1,hC⟩
  obtain ⟨xa,xn,xc,rfl⟩:=hC.at.shape
  have hS1:=cell_keep b1 hS
  refine hK _ _ hS1 ?_
  clear hK KK
  refine headC rfl (fun KK hK=>?_)
  go_simp
  refine hK _ _ (cell_alloc hS1 _) ?_
  clear hK KK
  refine headC rfl (fun KK hK=>?_)
  have hV1:=(D.listV hrW).below b1
  refine step_app1L (by rfl) _ _ rfl B lv ls _ W1.heap.size rfl rfl rfl hV1 (by omega) (hC.one) (Nat.le_trans hsW b1.size) ?_
  intro lv' W3 hV3 hgr
  obtain ⟨hr3,hS3,hF3,hB3⟩:=push_rows D hrW b1 hC hsW hV3 hgr
  refine hK _ _ hS3 ?_
  clear hK KK
  refine head0 ?_
  simp only [List.drop_succ_cons,List.drop_zero]
  obtain ⟨la,ln,lc,rfl⟩:=hV3.shape
  replace hr3:=Hd hr3
  replace hV3:=Hd hV3
  replace hgr:=Hd hgr
  replace hC:=Hd hC
  clear z3 z5 z6 hS hS1 f6 f7 z7 hf7
  go_wp2
  refine NoPanic.normal ?_
  go_wp2
  go_ret
  refine ⟨_,_,M,_,_,_,false,rfl,push_store D hr3.out,below_le hBw (hB3.setCell (p:=⟨d,6,none⟩) (D.base hr) _) hBW,D.pushed _ _ xs hlt,hso.out,fun k _=>?_,.inl ⟨by simp; omega,rfl,rfl,by simp⟩⟩
  rw [upd_ne _ _ (by simp),upd_ne _ _ (by simp),upd_ne _ _ (by simp)]
 ·replace hX:=Hd hX
  replace hW:=Hd hW
  replace hso:=Hd hso
  obtain ⟨f',hr',D',hf'⟩:=D.setMore hr
  go_enter Tryz.func162,Tryz.ntmps162
  go_wp2
  go_quiet (fail)
  go_wp2
  go_ret
  refine ⟨_,f',M,lv,ls,LS,true,rfl,hr'.drewN nq,?_,D',hso.out,fun k _=>hf' _ (by simp),.inr ⟨by simp; omega,rfl,rfl⟩⟩
  exact (show Below B w (w.drewN nq) from ⟨rfl,rfl,rfl,Nat.le_refl _,fun _ _=>rfl⟩).setCell (p:=⟨d,7,none⟩) (D.base hr) (.bool true)
theorem oneBools:OneCell 178 4 (.bool false) 1:=⟨by kernel_rfl,by kernel_rfl,rfl,by decide,fun _=>by kernel_rfl⟩
theorem oneBoolss:OneCell 195 178 (.slice none 0 0) 24:=⟨by kernel_rfl,by kernel_rfl,rfl,by decide,fun _=>by kernel_rfl⟩
theorem step_app1I {ops:Array Oper} {o:Oper} {a:Act} {w:World} {K:Act→World→Prop} {Q:Exit→Act→World→Prop} {Ep:Prop} (hw:Region.wanted o (yielded ops a.tmps)=true) (s x:Operand)
 (ho:o.op=.call { callee:=.builtin .append,args:=#[s,x],argTypes:=#[22,22] })
 (B:Nat) (v:Value) (vs:List Int) (y:Int) (b:Nat) (hs:a.eval s=v) (hx:a.eval x=.slice (some ⟨b,0,none⟩) 1 1) (hb:b=w.heap.size) (hown:OwnI B w v vs)
 (hlen:vs.length<4398046511104) (hB:B≤w.heap.size)
 (h:∀ v' w',OwnI B w' v' (vs++[y])→((roomOf v'=roomOf v∧w.grownBy w' v.ownBlock)∨(∃ k,v'.ownBlock=some k∧w.heap.size≤k∧w.grownBy w' none))→K (a.put o.dst v') w') :
 if Region.wanted o (yielded ops a.tmps)=true then Oper.wp Tryz.prog o a (w.alloc (.cells #[.int .i64 y] 3)) K Q else Ep:=by
 rw [if_pos hw]
 subst hb
 obtain ⟨v',w',hr,h2,h3⟩:=run_app oneInts (w.alloc (.cells #[.int .i64 y] 3)) B o.type v _ (hown.alloc _).toV ⟨w.heap.size,0,none⟩ 1 [.int .i64 y] (by simp) (cell_one_new _ _ _) (by simp [Value.oneCell']) (by simp; omega) (by simp; omega)
 rw [show ([.int .i64 y]:List Value).length=1 from rfl] at hr
 have hal:∀ row,w.grownBy (w.alloc (.cells #[.int .i64 y] 3)) row:=fun row=>World.grownBy_alloc w _ row
 have hK:K (a.put o.dst v') w':=by
  refine h v' w' (OwnV.toI (by simpa using h2)) ?_
  rcases h3 with ⟨hroom,hg⟩ | ⟨hk,hg⟩
  ·exact .inl ⟨hroom,(hal v.ownBlock).trans hg⟩
  ·exact .inr ⟨_,hk,by simp,(hal none).trans hg⟩
 unfold Oper.wp
 simp [execOp,ho,resolve,invoke,builtin,hs,hx,hr,Result.andThen]
 exact hK
theorem x_rows {B:Nat} {w w':World} {f:Names} {i:Nat} {xv xv':Value} {xs:List Int} {s:Int} (hr:Rows B w f) (hx:f (4,i)=some (rowI xv xs)) (hB:B≤w.heap.size) (hx':OwnI B w' xv' (xs++[s]))
 (hal:(roomOf xv'=roomOf xv∧w.grownBy w' xv.ownBlock)∨(∃ k,xv'.ownBlock=some k∧w.heap.size≤k∧w.grownBy w' none)) :
 ∃ f1,Rows B w' f1∧f1 (4,i+1)=some (rowI xv' (xs++[s]))∧(∀ j,j.1≠4→f1 j=f j)∧(∀ k,k<i→f1 (4,k)=f (4,k))∧Below B w w' ∧
  ∀ w2 f2,Rows B w2 f2→(∀ k,k≤i+1→f2 (4,k)=f1 (4,k))→∃ f3,Rows B w2 f3∧(∀ k,k≤i→f3 (4,k)=f (4,k))∧∀ j,j.1≠4→f3 j=f2 j:=by
 have hx0:=hr.ownI hx
 rcases hal with ⟨hroom,hg⟩ | ⟨k,hk,hk2,hg⟩
 ·obtain ⟨a1,n1,c1,e1⟩:=hx0.at.shape
  obtain ⟨a2,n2,c2,e2⟩:=hx'.at.shape
  have hob:=ownBlock_of_room e1 e2 hroom
  have h1:=hr.grown (r':=rowI xv' (xs++[s])) hx hg hx' (.inl hob)
  have h2:=h1.move (i:=(4,i)) (j:=(4,i+1)) (r:=rowI xv' (xs++[s])) (r':=rowI xv' (xs++[s])) (upd_same _ _ _) hx' rfl
  refine ⟨_,h2,upd_same _ _ _,fun j hj=>?_,fun k hk=>?_,(Below.refl _ _).grown hg hB (fun k hk=>(hx0.lt k hk).1),fun w2 f2 hr2 hf2=>?_⟩
  ·rw [upd_ne _ _ (fun e=>hj (by rw [e])),upd_ne _ _ (fun e=>hj (by rw [e])),upd_ne _ _ (fun e=>hj (by rw [e]))]
  ·rw [upd_ne _ _ (by simp; omega),upd_ne _ _ (by simp; omega),upd_ne _ _ (by simp; omega)]
  ·have e4:f2 (4,i+1)=some (rowI xv' (xs++[s])):=by rw [hf2 _ (Nat.le_refl _),upd_same]
   have hxb:=hx0.front (hr2.ownI e4) hroom
   have h3:=hr2.move (i:=(4,i+1)) (j:=(4,i)) (r:=rowI xv' (xs++[s])) (r':=rowI xv xs) e4 hxb hob.symm
   refine ⟨_,h3,fun k hk=>?_,fun j hj=>?_⟩
   ·by_cases e:k=i
    ·subst e; rw [upd_same,hx]
    ·rw [upd_ne _ _ (by simpa using e),upd_ne _ _ (by simp; omega),hf2 k (by omega),upd_ne _ _ (by simp; omega),upd_ne _ _ (by simp; omega),upd_ne _ _ (by simp; omega)]
   ·rw [upd_ne _ _ (fun e=>hj (by rw [e])),upd_ne _ _ (fun e=>hj (by rw [e]))]
 ·have h1:=hr.fresh (i:=(4,i+1)) (r':=rowI xv' (xs++[s])) hg hx' (fun m hm=>by
   have e:xv'.ownBlock=some m:=hm
   rw [hk] at e; injection e with e; omega)
  refine ⟨_,h1,upd_same _ _ _,fun j hj=>?_,fun k hk=>?_,(Below.refl _ _).grown hg hB (by intro k hk; cases hk),fun w2 f2 hr2 hf2=>⟨f2,hr2,fun k hk=>?_,fun _ _=>rfl⟩⟩
  ·rw [upd_ne _ _ (fun e=>hj (by rw [e]))]
  ·rw [upd_ne _ _ (by simp; omega)]
  ·rw [hf2 k (by omega),upd_ne _ _ (by simp; omega)]
theorem complU_mono (K N:Nat) (T:List Int) (node:Nat) (y:Int) (ws:List Int) (s t:Nat) (h:s≤t):(complU K N T node y ws s).length≤(complU K N T node y ws t).length:=by
 induction t with
 | zero=>obtain rfl:s=0:=by omega
         exact Nat.le_refl _
 | succ t ih =>
  by_cases e:s=t+1
  ·subst e; exact Nat.le_refl _
  ·have:=ih (by omega)
   rw [complU_succ,List.length_append]; omega
theorem keep6 {w w':World} {a0 a1 a2 a3 a4 a5:Addr} {u0 u1 u2 u3 u4 u5:Value} (h:w.cell? a0=some u0∧w.cell? a1=some u1∧w.cell? a2=some u2∧w.cell? a3=some u3∧w.cell? a4=some u4∧w.cell? a5=some u5) (hb:Below w.heap.size w w') :
 w'.cell? a0=some u0∧w'.cell? a1=some u1∧w'.cell? a2=some u2∧w'.cell? a3=some u3∧w'.cell? a4=some u4∧w'.cell? a5=some u5:=by
 obtain ⟨h0,h1,h2,h3,h4,h5⟩:=h
 have k:∀ {a:Addr} {u:Value},w.cell? a=some u→w'.cell? a=some u:=fun {a u} h=>(hb.cell (World.block_lt_of_cell? _ _ h)).trans h
 exact ⟨k h0,k h1,k h2,k h3,k h4,k h5⟩
def OnInv (B K N:Nat) (T ws:List Int) (d:Nat) (hd:List Value) (A:Value) (az:List Value) (most:Nat) (f:Names) (LS C Ct:List (List Int)) (i:Nat) (w:World) (any:Value) (wr:World):Prop :=
 ∃ f' M' lv' ls' LS' more',Rows B wr f'∧Below B w wr∧DN f' d hd A az ws.length N most M' lv' ls' LS' more'∧Sound K N T ws M'∧(∀ k,k≤i→f' (4,k)=f (4,k)) ∧
  ((LS.length+C.length≤most∧LS'=LS++C∧more'=false∧any=.bool (decide (C≠[])))∨(most<LS.length+Ct.length∧more'=true∧any=.bool true))
theorem on_step (w0:World) (K N R:Nat) (T ws:List Int) (d:Nat) (va:Option Addr) (vn vc:Nat) (ua:Option Addr) (un uc:Nat) (A:Value) (az:List Value) (most i:Nat) (hi:i<ws.length)
 (hok:RuleOk K R T) (hN:T.length/K=N) (hT256:T.length≤256) (hwl:ws.length≤256) (hT0:IntsAt w0 (.slice va vn vc) T) (hW0:IntsAt w0 (.slice ua un uc) ws)
 (IH:∀ (f:Names) (M:Nat→List Bool) (lv:Value) (ls:List Value) (LS:List (List Int)) (xv:Value) (xs:List Int) (node:Nat) (w:World),Rows w0.heap.size w f→Below w0.heap.size w0 w →
   DN f d [.int .i64 K,.int .i64 R,.slice va vn vc,.slice ua un uc,A,.int .i64 most] A az ws.length N most M lv ls LS false→Sound K N T ws M→f (4,i+1)=some (rowI xv xs)→xs.length≤8+(i+1)→node<N →
   Calls Tryz.prog 162 #[.pointer (some ⟨d,0,none⟩),xv,.int .i64 node,.int .i64 ((i+1:Nat):Int)] w (OnPost w0.heap.size K N T ws d [.int .i64 K,.int .i64 R,.slice va vn vc,.slice ua un uc,A,.int .i64 most] A az most f LS ((compl K N T node (ws.drop (i+1))).map (xs++·)) (i+1) w))
 (f:Names) (M:Nat→List Bool) (lv:Value) (ls:List Value) (LS:List (List Int)) (xv:Value) (xs:List Int) (node:Nat) (w:World) (hr:Rows w0.heap.size w f) (hB0w:Below w0.heap.size w0 w)
 (D:DN f d [.int .i64 K,.int .i64 R,.slice va vn vc,.slice ua un uc,A,.int .i64 most] A az ws.length N most M lv ls LS false) (hso:Sound K N T ws M) (hx:f (4,i)=some (rowI xv xs)) (hxl:xs.length≤8+i) (hnode:node<N) :
 Calls Tryz.prog 162 #[.pointer (some ⟨d,0,none⟩),xv,.int .i64 node,.int .i64 i] w (OnPost w0.heap.size K N T ws d [.int .i64 K,.int .i64 R,.slice va vn vc,.slice ua un uc,A,.int .i64 most] A az most f LS ((compl K N T node (ws.drop i)).map (xs++·)) i w):=by
 have hk1:=hok.k1
 have hk4:=hok.k4
 have hlm:=D.lmost
 have hMl:=(D.marks i hi).2
 have lw:=(hW0.below (w':=w) (hB0w.mono (Nat.le_refl _))).len
 have hne:((i:Int)==(ws.length:Int))=false:=by rw [beq_eq_false_iff_ne]; omega
 obtain ⟨b,hb⟩:∃ b,(M i)[node]?=some b:=⟨_,List.getElem?_eq_getElem (by rw [hMl]; exact hnode)⟩
 have haz:=Hd D.aslen
 have oA:=(D.outerV hr).at
 have oM:=(D.marksV hr i hi).at
 have iA:=fun w'=>oA.idx oneBoolss i (by rw [haz.out]; exact hi) w'
 have cA:=oA.cellV i (by rw [haz.out]; exact hi)
 have iM:=fun w'=>oM.idx oneBools node (by rw [List.length_map,hMl]; exact hnode) w'
 have cM:=oM.cellV node (by rw [List.length_map,hMl]; exact hnode)
 have hbv:vAt ((M i).map Value.bool) node=.bool b:=by simp [vAt,List.getD,hb]
 rw [hbv] at cM
 obtain ⟨pa,hpa⟩:∃ pa,valAt A i=pa:=⟨_,rfl⟩
 obtain ⟨mv,hmv⟩:∃ mv,vAt az i=mv:=⟨_,rfl⟩
 obtain ⟨pm,hpm⟩:∃ pm,valAt mv node=pm:=⟨_,rfl⟩
 rw [hmv] at iM cM cA
 rw [hpa] at iA cA
 rw [hpm] at iM cM
 replace hpa:=Hd hpa
 obtain ⟨ma,mn,mc,rfl⟩:∃ a n c,mv=.slice a n c:=by rw [← hmv]; exact (D.marksV hr i hi).shape
 replace hmv:=Hd hmv
 replace hpm:=Hd hpm
 obtain ⟨Aa,An,Ac,rfl⟩:=(D.outerV hr).shape
 have z0:=D.cellH hr 0 (by decide)
 have z3:=D.cellH hr 3 (by decide)
 have z4:=D.cellH hr 4 (by decide)
 simp only [List.getElem?_cons_succ,List.getElem?_cons_zero] at z0 z3 z4
 clear oA oM hbv
 replace hb:=Hd hb
 cases b with
 | true =>
  have hC:=hso i node hi hb.out
  rw [hC,List.map_nil]
  replace hso:=Hd hso
  replace IH:=Hd IH
  replace hC:=Hd hC
  go_enter Tryz.func162,Tryz.ntmps162
  go_wp2
  go_ret
  exact ⟨_,f,M,lv,ls,LS,false,rfl,hr,Below.refl _ _,D,hso.out,fun _ _=>rfl,.inl ⟨by simpa using hlm,by simp,rfl,by simp⟩⟩
 | false =>
  rw [List.drop_eq_getElem_cons hi,compl_cons]
  replace IH:=Hd IH
  replace hMl:=Hd hMl
  have hso':=Hd hso
  clear hso
  obtain ⟨CU,hCU⟩:∃ CU:Nat→List (List Int),CU=fun s=>(complU K N T node ws[i] (ws.drop (i+1)) s).map (xs++·):=⟨_,rfl⟩
  rw [show (complU K N T node ws[i] (ws.drop (i+1)) K).map (xs++·)=CU K by rw [hCU]]
  replace hCU:=Hd hCU
  go_enter Tryz.func162,Tryz.ntmps162
  go_wp2
  clear z0 z3 z4 cA cM
  go_loopw [9,10] (fun any sv wr=>∃ s:Nat,s≤K∧sv=.int .i64 s∧OnInv w0.heap.size K N T ws d [.int .i64 K,.int .i64 R,.slice va vn vc,.slice ua un uc,.slice Aa An Ac,.int .i64 most] (.slice Aa An Ac) az most f LS (CU s) (CU K) i w any wr) (fun _ sv _=>K-(intOf sv).toNat)
  case atStart=>exact ⟨0,by omega,rfl,f,M,lv,ls,LS,false,hr,Below.refl _ _,D,hso'.out,fun _ _=>rfl,.inl ⟨by rw [hCU.out]; simpa [complU] using hlm,by rw [hCU.out]; simp [complU],rfl,by rw [hCU.out]; simp [complU]⟩⟩
  case round =>
   obtain ⟨s,hs,rfl,f',M',lv',ls',LS',more',hr',hBr,D',hso2,hfk,hst⟩:=hrel
   obtain ⟨wo,rfl⟩:∃ wo:World,wo=wr:=⟨_,rfl⟩
   replace hso2:=Hd hso2
   replace hfk:=Hd hfk
   have hB0wo:Below w0.heap.size w0 wo:=hB0w.trans hBr
   rcases hst with ⟨hfit,rfl,rfl,rfl⟩ | ⟨hbig,rfl,rfl⟩
   ·by_cases hlt:s<K
    ·obtain ⟨aq,haq⟩:∃ aq,aq=decide (CU s≠[]):=⟨_,rfl⟩
     rw [← haq]
     replace haq:=Hd haq
     have z0:=D'.cellH hr' 0 (by decide)
     have z7:=D'.cell7 hr'
     simp only [List.getElem?_cons_zero] at z0
     have hNK:N*K=T.length:=by rw [← hN,hok.half.1]; exact hok.half.2.symm
     have he:node*K+s<T.length:=by
      have:(node+1)*K≤N*K:=Nat.mul_le_mul_right _ hnode
      rw [Nat.add_mul] at this; omega
     have hT1:=hT0.below hB0wo
     have hW1:=hW0.below hB0wo
     have i2:∀ w',(Instr.indexAt 22 (.slice va vn vc) (.int .i64 ((node:Int)*(K:Int)+(s:Int)))).run Tryz.prog w'=.ok (.pointer (some (valAt (.slice va vn vc) (node*K+s)))) w':=by
      intro w'
      have:=hT1.idx (node*K+s) he w'
      rwa [Int.natCast_add,Int.natCast_mul] at this
     have i3:=hW1.idx i hi
     have c2:=hT1.cellD (node*K+s) he
     have c3:=hW1.cell i hi
     have hCS:CU (s+1)=CU s++if T.getD (node*K+s) 0=ws[i] then (compl K N T ((node*K+s)%N) (ws.drop (i+1))).map ((xs++[(s:Int)])++·) else []:=by
      rw [hCU.out]
      simp only [complU_succ,List.map_append]
      congr 1
      split
      ·simp [List.map_map,Function.comp_def]
      ·rfl
     obtain ⟨x,hxe⟩:∃ x,T.getD (node*K+s) 0=x:=⟨_,rfl⟩
     obtain ⟨y,hye⟩:∃ y,ws[i]=y:=⟨_,rfl⟩
     obtain ⟨ta,hta⟩:∃ ta,valAt (.slice va vn vc) (node*K+s)=ta:=⟨_,rfl⟩
     obtain ⟨wa,hwa⟩:∃ wa,valAt (.slice ua un uc) i=wa:=⟨_,rfl⟩
     rw [hta] at i2 c2
     rw [hwa] at i3 c3
     rw [hxe] at c2 hCS
     rw [hye] at c3 hCS
     have SS:=Hd (show ∀ (f2:Names) (M2:Nat→List Bool) (lv2:Value) (ls2:List Value) (LS2:List (List Int)) (more2:Bool) (W2:World),DN f2 d [.int .i64 K,.int .i64 R,.slice va vn vc,.slice ua un uc,.slice Aa An Ac,.int .i64 most] (.slice Aa An Ac) az ws.length N most M2 lv2 ls2 LS2 more2→Rows w0.heap.size W2 f2→Below w0.heap.size w0 W2 →
      W2.cell? ⟨d,0,none⟩=some (.int .i64 K)∧W2.cell? ⟨d,1,none⟩=some (.int .i64 R)∧W2.cell? ⟨d,2,none⟩=some (.slice va vn vc)∧W2.cell? ⟨d,3,none⟩=some (.slice ua un uc)∧W2.cell? ta=some (.int .i64 x)∧W2.cell? wa=some (.int .i64 y) from by
      intro f2 M2 lv2 ls2 LS2 more2 W2 D2 r2 b2
      refine ⟨D2.cellH r2 0 (by decide),D2.cellH r2 1 (by decide),D2.cellH r2 2 (by decide),D2.cellH r2 3 (by decide),?_,?_⟩
      ·rw [← hta,← hxe]; exact (hT0.below b2).cellD _ he
      ·rw [← hwa,← hye]; exact (hW0.below b2).cell i hi)
     replace hxe:=Hd hxe
     replace hye:=Hd hye
     replace hta:=Hd hta
     replace hwa:=Hd hwa
     have hT0':=Hd hT0
     have hrW:=Hd (hr'.drew)
     have hB0W:=Hd (show Below w0.heap.size w0 wo.drew from hB0wo.drew)
     have hBW:=Hd (show Below w0.heap.size w wo.drew from hBr.drew)
     have hsW:w0.heap.size≤wo.drew.heap.size:=hB0wo.size
     have hxf:=hfk.out i (Nat.le_refl _)
     rw [hx] at hxf
     have hxW:=Hd (show OwnI w0.heap.size wo.drew xv xs from (hr'.ownI hxf).drew)
     have hS:=SS.out _ _ _ _ _ _ wo.drew D' hrW.out hB0W.out
     obtain ⟨W,hWe⟩:∃ W:World,W=wo.drew:=⟨_,rfl⟩
     rw [← hWe] at hrW hB0W hBW hsW hxW hS
     have hNK2:=Hd hNK
     have hNe:=Hd hN
     have hNp:0<N:=by omega
     have hN0:((N:Int)==0)=false:=by rw [beq_eq_false_iff_ne]; omega
     have hN1:¬ (N:Int)=0:=by omega
     have hN2:(0:Int)<N:=by omega
     have hN3:¬ N=0:=by omega
     obtain ⟨nd,hnd⟩:∃ nd,(node*K+s)%N=nd:=⟨_,rfl⟩
     have hndl:nd<N:=by rw [← hnd]; exact Nat.mod_lt _ hNp
     have htm:((node:Int)*(K:Int)+(s:Int)).tmod (N:Int)=(nd:Int):=by
      rw [← hnd,Int.tmod_eq_emod_of_nonneg (by have:=Int.mul_nonneg (a:=(node:Int)) (b:=(K:Int)) (by omega) (by omega); omega)]
      simp
     rw [hnd] at hCS
     replace hnd:=Hd hnd
     have hm1:0≤(node:Int)*(K:Int):=Int.mul_nonneg (by omega) (by omega)
     have hm2:(node:Int)*(K:Int)+(s:Int)≤256:=by
      have h2:=Int.ofNat_le.2 (Nat.le_of_lt he)
      rw [Int.natCast_add,Int.natCast_mul] at h2
      omega
     have hmono:(CU (s+1)).length≤(CU K).length:=by
      rw [hCU.out]; simp only [List.length_map]; exact complU_mono _ _ _ _ _ _ _ _ (by omega)
     clear hNK hxf c2 c3 hT1 hW1
     by_cases hq:x=y
     ·have hq2:(x==y)=true:=by rw [beq_iff_eq]; exact hq
      rw [if_pos hq] at hCS
      obtain ⟨C',hC'⟩:∃ C',(compl K N T nd (ws.drop (i+1))).map ((xs++[(s:Int)])++·)=C':=⟨_,rfl⟩
      rw [hC'] at hCS
      replace hC':=Hd hC'
      replace hCS:=Hd hCS
      replace hq:=Hd hq
      go_wp2
      refine wp_region_plan (fun w'=>w'.cell? ⟨d,0,none⟩=some (.int .i64 K)∧w'.cell? ⟨d,1,none⟩=some (.int .i64 R)∧w'.cell? ⟨d,2,none⟩=some (.slice va vn vc)∧w'.cell? ⟨d,3,none⟩=some (.slice ua un uc)∧w'.cell? ta=some (.int .i64 x)∧w'.cell? wa=some (.int .i64 y)) 31 [(0,true),(1,true),(2,true),(3,true),(4,true),(5,true),(6,true),(7,true),(8,true),(9,true),(10,true),(11,true),(12,true),(13,true),(14,true),(15,true),(16,true),(17,true),(18,true),(19,true),(22,true),(23,true),(24,true),(25,true),(26,true),(29,true),(30,true),(20,false),(21,false),(27,false),(28,true)] (by kernel_rfl) (by kernel_rfl) ?_
      rw [← hWe]
      replace hWe:=Hd hWe
      clear z0 z7
      refine pqY 78 hS ?_
      refine pqY 79 hS ?_
      refine pqY 80 hS ?_
      refine pqY 81 hS ?_
      refine pqY 82 hS ?_
      refine pqY 83 hS ?_
      refine pqY 84 hS ?_
      refine pqY 85 hS ?_
      refine pqY 86 hS ?_
      refine pqY 87 hS ?_
      refine pqY 88 hS ?_
      refine pqY 89 hS ?_
      refine pqY 90 hS ?_
      refine pqY 91 hS ?_
      refine pqY 92 hS ?_
      refine pqY 93 hS ?_
      refine pqY 94 hS ?_
      refine pqY 95 hS ?_
      refine pqY 96 hS ?_
      refine pqY 97 hS ?_
      refine pqY 100 hS ?_
      refine pqY 101 hS ?_
      refine pqY 102 hS ?_
      refine pqY 103 hS ?_
      refine pqY 104 hS ?_
      refine pqY 107 hS ?_
      refine pqY 108 hS ?_
      refine headC rfl (fun KK hK=>?_)
      go_simp
      refine hK _ _ (keep6 hS (belowAlloc _ _)) ?_
      clear hK KK
      refine headC rfl (fun KK hK=>?_)
      refine step_app1I (by rfl) _ _ rfl w0.heap.size xv xs s W.heap.size rfl rfl rfl hxW.out (by omega) hsW ?_
      intro xv' W2 hx2 hal
      obtain ⟨f2,hr2,hx2',hf2,hfk2,hB2,hback⟩:=x_rows (i:=i) hrW.out ((hfk.out i (Nat.le_refl _)).trans hx) hsW hx2 hal
      have D2:=D'.congr hf2
      have hBt:=hB0W.out.trans hB2
      have hS2:=SS.out _ _ _ _ _ _ W2 D2 hr2 hBt
      refine hK _ _ hS2 ?_
      clear hK KK
      refine headC rfl (fun KK hK=>?_)
      go_simp
      refine (over_nodes K R va vn vc T _ (hT0'.out.below hBt) (by omega) (by omega)).mono ?_
      rintro e W3 ⟨rfl,rfl⟩
      rw [hNe.out]
      have hS3:=keep6 hS2 (belowAlloc W2 (.cells #[.int .i64 K,.int .i64 R,.slice va vn vc] 24))
      refine hK _ _ hS3 ?_
      clear hK KK
      refine pqY 106 hS3 ?_
      refine head0 ?_
      simp only [List.drop_succ_cons,List.drop_zero]
      have hIH:=IH.out f2 M' lv' ls' (LS++CU s) xv' (xs++[(s:Int)]) nd _ (hr2.below (belowAlloc W2 (.cells #[.int .i64 K,.int .i64 R,.slice va vn vc] 24))) (hBt.trans ((belowAlloc W2 _).mono hBt.size)) D2 hso2.out hx2' (by simp; omega) hndl
      rw [hC'.out,show ((i+1:Nat):Int)=(i:Int)+1 by omega] at hIH
      replace hIH:=Hd hIH
      replace hback:=Hd hback
      replace hr2:=Hd hr2
      replace hx2:=Hd hx2
      replace hx2':=Hd hx2'
      replace hf2:=Hd hf2
      replace hfk2:=Hd hfk2
      replace hal:=Hd hal
      replace htm:=Hd htm
      have hBX:=Hd (hBW.out.trans (hB2.trans ((belowAlloc W2 (.cells #[.int .i64 K,.int .i64 R,.slice va vn vc] 24)).mono hBt.size)))
      clear hS hS2 hS3
      go_wp2_with fail
      refine hIH.out.mono ?_
      rintro e w4 ⟨ret,f4,M4,lv4,ls4,LS4,more4,rfl,hr4,hB4,D4,hso4,hfk4,hst4⟩
      obtain ⟨f5,hr5,hf5,hf5'⟩:=hback.out w4 f4 hr4 hfk4
      have D5:=D4.congr hf5'
      have hBe:=Hd (hBX.out.trans hB4)
      have hfkE:=Hd (show ∀ k,k≤i→f5 (4,k)=f (4,k) from fun k hk=>(hf5 k hk).trans (hfk.out k hk))
      replace hr5:=Hd hr5
      replace hso4:=Hd hso4
      clear hr4 hB4 D4 hfk4 hf5 hf5'
      rcases hst4 with ⟨hfit4,rfl,rfl,rfl⟩ | ⟨hbig4,rfl,rfl⟩
      ·obtain ⟨q,hqd⟩:∃ q,decide (C'≠[])=q:=⟨_,rfl⟩
       rw [hqd]
       cases q with
       | true =>
        have hq3:C'≠[]:=by simpa using hqd
        replace hqd:=Hd hqd
        replace hq3:=Hd hq3
        go_wp2
        refine NoPanic.normal ?_
        go_wp2
        go_roundw
        case rel=>exact ⟨s+1,by omega,by go_num,f5,M4,lv4,ls4,_,_,hr5.out,hBe.out,D5,hso4.out,hfkE.out,.inl ⟨by rw [hCS.out]; simp at hfit4 ⊢; omega,by rw [hCS.out,List.append_assoc],rfl,by rw [hCS.out]; simp [hq3.out]⟩⟩
        case measure=>simp [intOf]; omega
       | false =>
        have hq3:C'=[]:=by simpa using hqd
        replace hqd:=Hd hqd
        replace hq3:=Hd hq3
        go_wp2
        refine NoPanic.normal ?_
        go_wp2
        go_roundw
        case rel=>exact ⟨s+1,by omega,by go_num,f5,M4,lv4,ls4,_,_,hr5.out,hBe.out,D5,hso4.out,hfkE.out,.inl ⟨by rw [hCS.out]; simp at hfit4 ⊢; omega,by rw [hCS.out,List.append_assoc],rfl,by rw [hCS.out,hq3.out,List.append_nil,haq.out]⟩⟩
        case measure=>simp [intOf]; omega
      ·go_wp2
       refine NoPanic.normal ?_
       go_wp2
       go_roundw
       case rel=>exact ⟨s+1,by omega,by go_num,f5,M4,lv4,ls4,_,_,hr5.out,hBe.out,D5,hso4.out,hfkE.out,.inr ⟨by rw [hCS.out] at hmono; simp at hbig4 hmono ⊢; omega,rfl,rfl⟩⟩
       case measure=>simp [intOf]; omega
     ·have hq2:(x==y)=false:=by rw [beq_eq_false_iff_ne]; exact hq
      rw [if_neg hq,List.append_nil] at hCS
      replace hCS:=Hd hCS
      replace hq:=Hd hq
      go_wp2
      refine wp_region_plan (fun w'=>w'.cell? ⟨d,0,none⟩=some (.int .i64 K)∧w'.cell? ⟨d,1,none⟩=some (.int .i64 R)∧w'.cell? ⟨d,2,none⟩=some (.slice va vn vc)∧w'.cell? ⟨d,3,none⟩=some (.slice ua un uc)∧w'.cell? ta=some (.int .i64 x)∧w'.cell? wa=some (.int .i64 y)) 31 [(0,true),(1,true),(2,true),(3,true),(4,true),(5,true),(6,true),(7,true),(8,true),(9,true),(10,true),(11,true),(12,true),(13,true),(14,true),(15,true),(16,true),(17,true),(18,true),(19,true),(22,true),(23,true),(24,true),(25,true),(26,true),(29,true),(30,true),(20,false),(21,false),(27,false),(28,true)] (by kernel_rfl) (by kernel_rfl) ?_
      rw [← hWe]
      replace hWe:=Hd hWe
      clear z0 z7
      refine pqY 78 hS ?_
      refine pqY 79 hS ?_
      refine pqY 80 hS ?_
      refine pqY 81 hS ?_
      refine pqY 82 hS ?_
      refine pqY 83 hS ?_
      refine pqY 84 hS ?_
      refine pqY 85 hS ?_
      refine pqY 86 hS ?_
      refine pqY 87 hS ?_
      refine pqY 88 hS ?_
      refine pqY 89 hS ?_
      refine pqY 90 hS ?_
      refine pqY 91 hS ?_
      refine pqY 92 hS ?_
      refine pqY 93 hS ?_
      refine pqY 94 hS ?_
      refine pqN 95 hS ?_
      refine pqN 96 hS ?_
      refine pqN 97 hS ?_
      refine pqN 100 hS ?_
      refine pqN 101 hS ?_
      refine pqN 102 hS ?_
      refine pqN 103 hS ?_
      refine pqN 104 hS ?_
      refine pqN 107 hS ?_
      refine pqN 108 hS ?_
      refine headC rfl (fun KK hK=>?_)
      go_simp
      refine hK _ _ hS ?_
      clear hK KK
      refine headC rfl (fun KK hK=>?_)
      go_simp
      refine hK _ _ hS ?_
      clear hK KK
      refine headC rfl (fun KK hK=>?_)
      go_simp
      refine hK _ _ hS ?_
      clear hK KK
      refine pqN 106 hS ?_
      refine head0 ?_
      simp only [List.drop_succ_cons,List.drop_zero]
      replace htm:=Hd htm
      clear hS
      go_wp2
      refine NoPanic.normal ?_
      go_wp2
      go_roundw
      case rel=>exact ⟨s+1,by omega,by go_num,f',M',lv',ls',_,_,hrW.out,hBW.out,D',hso2.out,hfk.out,.inl ⟨by rw [hCS.out]; exact hfit,by rw [hCS.out],rfl,by rw [hCS.out,haq.out]⟩⟩
      case measure=>simp [intOf]; omega
    ·obtain rfl:s=K:=by omega
     obtain ⟨q,hqd⟩:∃ q,decide (CU s≠[])=q:=⟨_,rfl⟩
     rw [hqd]
     cases q with
     | true =>
      replace hqd:=Hd hqd
      have HM:=(D'.marks i hi).2
      have m0:=D'.cellH hr' 0 (by decide)
      have m4:=D'.cellH hr' 4 (by decide)
      have m7:=D'.cell7 hr'
      simp only [List.getElem?_cons_succ,List.getElem?_cons_zero] at m0 m4
      have mA:=(D'.outerV hr').at.cellV i (by rw [haz.out]; exact hi)
      have mV:=D'.marksV hr' i hi
      have mM:=mV.at.cellV node (by rw [List.length_map,HM]; exact hnode)
      have mF:=mV.frz node (by rw [List.length_map,HM]; exact hnode)
      rw [hpa.out,hmv.out] at mA
      rw [hmv.out,hpm.out] at mM mF
      obtain ⟨fE,hrE,DE,hfE⟩:=D'.mark hr' i hi node hnode false
      rw [hmv.out,hpm.out] at hrE
      have hpB:w0.heap.size≤pm.block:=by
       have h:=mV.blkB node (by rw [List.length_map,HM]; exact hnode)
       rw [hmv.out,hpm.out] at h
       exact h.2
      generalize vAt ((M' i).map Value.bool) node=mbv at mM
      replace mV:=Hd mV
      have hsoE:=Hd (hso2.out.mark i node false (by intro h; cases h))
      replace hrE:=Hd hrE
      replace hfE:=Hd hfE
      replace DE:=Hd DE
      replace HM:=Hd HM
      replace hBr:=Hd hBr
      go_wp2
      refine wp_region_plan (fun w'=>w'.cell? ⟨d,4,none⟩=some (.slice Aa An Ac)∧w'.cell? pa=some (.slice ma mn mc)∧w'.cell? ⟨d,7,none⟩=some (.bool false)) 18 [(0,true),(1,true),(2,true),(3,true),(4,true),(5,true),(6,true),(7,true),(8,true),(9,true),(10,true),(11,true),(12,true),(13,true),(14,true),(15,true),(16,true),(17,true)] (by kernel_rfl) (by kernel_rfl) ?_
      have hS:wo.drew.cell? ⟨d,4,none⟩=some (.slice Aa An Ac)∧wo.drew.cell? pa=some (.slice ma mn mc)∧wo.drew.cell? ⟨d,7,none⟩=some (.bool false):=⟨m4,mA,m7⟩
      refine pqY 111 hS ?_
      refine pqY 112 hS ?_
      refine pqY 113 hS ?_
      refine pqY 114 hS ?_
      refine pqY 115 hS ?_
      refine pqY 116 hS ?_
      refine pqY 117 hS ?_
      refine pqY 118 hS ?_
      refine pqY 119 hS ?_
      refine pqY 120 hS ?_
      refine pqY 121 hS ?_
      refine pqN 122 hS ?_
      refine pqN 123 hS ?_
      refine pqN 124 hS ?_
      refine pqN 125 hS ?_
      refine pqN 126 hS ?_
      refine pqY 127 hS ?_
      refine pqY 128 hS ?_
      refine head0 ?_
      simp only [List.drop_succ_cons,List.drop_zero]
      clear hS m0 m4 m7 mA
      go_wp2
      refine NoPanic.normal ?_
      go_wp2
      go_ret
      exact ⟨.bool true,fE,_,lv',ls',_,_,rfl,hrE.out.drew,(show Below w0.heap.size wo wo.drew from ⟨rfl,rfl,rfl,Nat.le_refl _,fun _ _=>rfl⟩) |> hBr.out.trans |>.setCell hpB _,DE.out,hsoE.out,fun k hk=>(hfE.out _ (by simp)).trans (hfk.out k hk),.inl ⟨hfit,rfl,rfl,by rw [hqd.out]⟩⟩
     | false =>
      have hnil:compl s N T node (ws.drop i)=[]:=by
       have:CU s=[]:=by simpa using hqd
       rw [hCU.out] at this
       rw [List.drop_eq_getElem_cons hi,compl_cons]
       simpa using this
      replace hqd:=Hd hqd
      replace hnil:=Hd hnil
      have HM:=(D'.marks i hi).2
      have m0:=D'.cellH hr' 0 (by decide)
      have m4:=D'.cellH hr' 4 (by decide)
      have m7:=D'.cell7 hr'
      simp only [List.getElem?_cons_succ,List.getElem?_cons_zero] at m0 m4
      have mA:=(D'.outerV hr').at.cellV i (by rw [haz.out]; exact hi)
      have mV:=D'.marksV hr' i hi
      have mM:=mV.at.cellV node (by rw [List.length_map,HM]; exact hnode)
      have mF:=mV.frz node (by rw [List.length_map,HM]; exact hnode)
      rw [hpa.out,hmv.out] at mA
      rw [hmv.out,hpm.out] at mM mF
      obtain ⟨fE,hrE,DE,hfE⟩:=D'.mark hr' i hi node hnode true
      rw [hmv.out,hpm.out] at hrE
      have hpB:w0.heap.size≤pm.block:=by
       have h:=mV.blkB node (by rw [List.length_map,HM]; exact hnode)
       rw [hmv.out,hpm.out] at h
       exact h.2
      generalize vAt ((M' i).map Value.bool) node=mbv at mM
      replace mV:=Hd mV
      have hsoE:=Hd (hso2.out.mark i node true (fun _=>hnil.out))
      replace hrE:=Hd hrE
      replace hfE:=Hd hfE
      replace DE:=Hd DE
      replace HM:=Hd HM
      replace hBr:=Hd hBr
      go_wp2
      refine wp_region_plan (fun w'=>w'.cell? ⟨d,4,none⟩=some (.slice Aa An Ac)∧w'.cell? pa=some (.slice ma mn mc)∧w'.cell? ⟨d,7,none⟩=some (.bool false)) 18 [(0,true),(1,true),(2,true),(3,true),(4,true),(5,true),(6,true),(7,true),(8,true),(9,true),(10,true),(11,true),(12,true),(13,true),(14,true),(15,true),(16,true),(17,true)] (by kernel_rfl) (by kernel_rfl) ?_
      have hS:wo.drew.cell? ⟨d,4,none⟩=some (.slice Aa An Ac)∧wo.drew.cell? pa=some (.slice ma mn mc)∧wo.drew.cell? ⟨d,7,none⟩=some (.bool false):=⟨m4,mA,m7⟩
      refine pqY 111 hS ?_
      refine pqY 112 hS ?_
      refine pqY 113 hS ?_
      refine pqY 114 hS ?_
      refine pqY 115 hS ?_
      refine pqY 116 hS ?_
      refine pqY 117 hS ?_
      refine pqY 118 hS ?_
      refine pqY 119 hS ?_
      refine pqY 120 hS ?_
      refine pqY 121 hS ?_
      refine pqY 122 hS ?_
      refine pqY 123 hS ?_
      refine pqY 124 hS ?_
      refine pqY 125 hS ?_
      refine pqY 126 hS ?_
      refine pqY 127 hS ?_
      refine pqY 128 hS ?_
      refine head0 ?_
      simp only [List.drop_succ_cons,List.drop_zero]
      clear hS m0 m4 m7 mA
      go_wp2
      refine NoPanic.normal ?_
      go_wp2
      go_ret
      exact ⟨.bool false,fE,_,lv',ls',_,_,rfl,hrE.out.drew,(show Below w0.heap.size wo wo.drew from ⟨rfl,rfl,rfl,Nat.le_refl _,fun _ _=>rfl⟩) |> hBr.out.trans |>.setCell hpB _,DE.out,hsoE.out,fun k hk=>(hfE.out _ (by simp)).trans (hfk.out k hk),.inl ⟨hfit,rfl,rfl,by rw [hqd.out]⟩⟩
   ·by_cases hlt:s<K
    ·skip
     have HM:=(D'.marks i hi).2
     have m0:=D'.cellH hr' 0 (by decide)
     have m4:=D'.cellH hr' 4 (by decide)
     have m7:=D'.cell7 hr'
     simp only [List.getElem?_cons_succ,List.getElem?_cons_zero] at m0 m4
     have mA:=(D'.outerV hr').at.cellV i (by rw [haz.out]; exact hi)
     have mV:=D'.marksV hr' i hi
     have mM:=mV.at.cellV node (by rw [List.length_map,HM]; exact hnode)
     have mF:=mV.frz node (by rw [List.length_map,HM]; exact hnode)
     rw [hpa.out,hmv.out] at mA
     rw [hmv.out,hpm.out] at mM mF
     obtain ⟨fE,hrE,DE,hfE⟩:=D'.mark hr' i hi node hnode false
     rw [hmv.out,hpm.out] at hrE
     have hpB:w0.heap.size≤pm.block:=by
      have h:=mV.blkB node (by rw [List.length_map,HM]; exact hnode)
      rw [hmv.out,hpm.out] at h
      exact h.2
     generalize vAt ((M' i).map Value.bool) node=mbv at mM
     replace mV:=Hd mV
     have hsoE:=Hd (hso2.out.mark i node false (by intro h; cases h))
     replace hrE:=Hd hrE
     replace hfE:=Hd hfE
     replace DE:=Hd DE
     replace HM:=Hd HM
     replace hBr:=Hd hBr
     go_wp2
     refine wp_region_plan (fun w'=>w'.cell? ⟨d,4,none⟩=some (.slice Aa An Ac)∧w'.cell? pa=some (.slice ma mn mc)∧w'.cell? ⟨d,7,none⟩=some (.bool true)) 18 [(0,true),(1,true),(2,true),(3,true),(4,true),(5,true),(6,true),(7,true),(8,true),(9,true),(10,true),(11,true),(12,true),(13,true),(14,true),(15,true),(16,true),(17,true)] (by kernel_rfl) (by kernel_rfl) ?_
     have hS:wo.drew.cell? ⟨d,4,none⟩=some (.slice Aa An Ac)∧wo.drew.cell? pa=some (.slice ma mn mc)∧wo.drew.cell? ⟨d,7,none⟩=some (.bool true):=⟨m4,mA,m7⟩
     refine pqY 111 hS ?_
     refine pqY 112 hS ?_
     refine pqY 113 hS ?_
     refine pqY 114 hS ?_
     refine pqY 115 hS ?_
     refine pqY 116 hS ?_
     refine pqY 117 hS ?_
     refine pqY 118 hS ?_
     refine pqY 119 hS ?_
     refine pqY 120 hS ?_
     refine pqY 121 hS ?_
     refine pqN 122 hS ?_
     refine pqN 123 hS ?_
     refine pqN 124 hS ?_
     refine pqN 125 hS ?_
     refine pqN 126 hS ?_
     refine pqY 127 hS ?_
     refine pqY 128 hS ?_
     refine head0 ?_
     simp only [List.drop_succ_cons,List.drop_zero]
     clear hS m0 m4 m7 mA
     go_wp2
     refine NoPanic.normal ?_
     go_wp2
     go_ret
     exact ⟨.bool true,fE,_,lv',ls',_,_,rfl,hrE.out.drew,(show Below w0.heap.size wo wo.drew from ⟨rfl,rfl,rfl,Nat.le_refl _,fun _ _=>rfl⟩) |> hBr.out.trans |>.setCell hpB _,DE.out,hsoE.out,fun k hk=>(hfE.out _ (by simp)).trans (hfk.out k hk),.inr ⟨hbig,rfl,rfl⟩⟩
    ·skip
     have HM:=(D'.marks i hi).2
     have m0:=D'.cellH hr' 0 (by decide)
     have m4:=D'.cellH hr' 4 (by decide)
     have m7:=D'.cell7 hr'
     simp only [List.getElem?_cons_succ,List.getElem?_cons_zero] at m0 m4
     have mA:=(D'.outerV hr').at.cellV i (by rw [haz.out]; exact hi)
     have mV:=D'.marksV hr' i hi
     have mM:=mV.at.cellV node (by rw [List.length_map,HM]; exact hnode)
     have mF:=mV.frz node (by rw [List.length_map,HM]; exact hnode)
     rw [hpa.out,hmv.out] at mA
     rw [hmv.out,hpm.out] at mM mF
     obtain ⟨fE,hrE,DE,hfE⟩:=D'.mark hr' i hi node hnode false
     rw [hmv.out,hpm.out] at hrE
     have hpB:w0.heap.size≤pm.block:=by
      have h:=mV.blkB node (by rw [List.length_map,HM]; exact hnode)
      rw [hmv.out,hpm.out] at h
      exact h.2
     generalize vAt ((M' i).map Value.bool) node=mbv at mM
     replace mV:=Hd mV
     have hsoE:=Hd (hso2.out.mark i node false (by intro h; cases h))
     replace hrE:=Hd hrE
     replace hfE:=Hd hfE
     replace DE:=Hd DE
     replace HM:=Hd HM
     replace hBr:=Hd hBr
     go_wp2
     refine wp_region_plan (fun w'=>w'.cell? ⟨d,4,none⟩=some (.slice Aa An Ac)∧w'.cell? pa=some (.slice ma mn mc)∧w'.cell? ⟨d,7,none⟩=some (.bool true)) 18 [(0,true),(1,true),(2,true),(3,true),(4,true),(5,true),(6,true),(7,true),(8,true),(9,true),(10,true),(11,true),(12,true),(13,true),(14,true),(15,true),(16,true),(17,true)] (by kernel_rfl) (by kernel_rfl) ?_
     have hS:wo.drew.cell? ⟨d,4,none⟩=some (.slice Aa An Ac)∧wo.drew.cell? pa=some (.slice ma mn mc)∧wo.drew.cell? ⟨d,7,none⟩=some (.bool true):=⟨m4,mA,m7⟩
     refine pqY 111 hS ?_
     refine pqY 112 hS ?_
     refine pqY 113 hS ?_
     refine pqY 114 hS ?_
     refine pqY 115 hS ?_
     refine pqY 116 hS ?_
     refine pqY 117 hS ?_
     refine pqY 118 hS ?_
     refine pqY 119 hS ?_
     refine pqY 120 hS ?_
     refine pqY 121 hS ?_
     refine pqN 122 hS ?_
     refine pqN 123 hS ?_
     refine pqN 124 hS ?_
     refine pqN 125 hS ?_
     refine pqN 126 hS ?_
     refine pqY 127 hS ?_
     refine pqY 128 hS ?_
     refine head0 ?_
     simp only [List.drop_succ_cons,List.drop_zero]
     clear hS m0 m4 m7 mA
     go_wp2
     refine NoPanic.normal ?_
     go_wp2
     go_ret
     exact ⟨.bool true,fE,_,lv',ls',_,_,rfl,hrE.out.drew,(show Below w0.heap.size wo wo.drew from ⟨rfl,rfl,rfl,Nat.le_refl _,fun _ _=>rfl⟩) |> hBr.out.trans |>.setCell hpB _,DE.out,hsoE.out,fun k hk=>(hfE.out _ (by simp)).trans (hfk.out k hk),.inr ⟨hbig,rfl,rfl⟩⟩
end Go.Proofs.YtncpnaoabkjegaaGreatDoor
namespace Go.Proofs.YtncpnaoabkjegaaGreatDoor
open Go.RowKit
theorem on_any (w0:World) (K N R:Nat) (T ws:List Int) (d:Nat) (va:Option Addr) (vn vc:Nat) (ua:Option Addr) (un uc:Nat) (A:Value) (az:List Value) (most:Nat)
 (hok:RuleOk K R T) (hN:T.length/K=N) (hT256:T.length≤256) (hm:most≤256) (hwl:ws.length≤256) (hT0:IntsAt w0 (.slice va vn vc) T) (hW0:IntsAt w0 (.slice ua un uc) ws) :
 ∀ (n i:Nat),i+n=ws.length→∀ (f:Names) (M:Nat→List Bool) (lv:Value) (ls:List Value) (LS:List (List Int)) (xv:Value) (xs:List Int) (node:Nat) (w:World),Rows w0.heap.size w f→Below w0.heap.size w0 w →
  DN f d [.int .i64 K,.int .i64 R,.slice va vn vc,.slice ua un uc,A,.int .i64 most] A az ws.length N most M lv ls LS false→Sound K N T ws M→f (4,i)=some (rowI xv xs)→xs.length≤8+i→node<N →
  Calls Tryz.prog 162 #[.pointer (some ⟨d,0,none⟩),xv,.int .i64 node,.int .i64 (i:Int)] w (OnPost w0.heap.size K N T ws d [.int .i64 K,.int .i64 R,.slice va vn vc,.slice ua un uc,A,.int .i64 most] A az most f LS ((compl K N T node (ws.drop i)).map (xs++·)) i w):=by
 intro n
 induction n with
 | zero =>
  intro i hin f M lv ls LS xv xs node w hr hb D hso hx hxl hn
  obtain rfl:i=ws.length:=by omega
  exact on_end w0.heap.size K N R T ws d _ ua un uc A az most f M lv ls LS xv xs node w hb.size hr (hW0.below hb) D hso hx (by omega) hm
 | succ n ih =>
  intro i hin f M lv ls LS xv xs node w hr hb D hso hx hxl hn
  exact on_step w0 K N R T ws d va vn vc ua un uc A az most i (by omega) hok hN hT256 hwl hT0 hW0 (ih (i+1) (by omega)) f M lv ls LS xv xs node w hr hb D hso hx hxl hn
set_option maxRecDepth 100000
set_option maxHeartbeats 8000000
theorem run_makeV {T E:TypeId} {z:Value} {b:Nat} (oc:OneCell T E z b) (C:Int) (n:Nat) (w:World) (hC:C=n) (hn:n≤4398046511104) :
 ∃ v w',(Instr.makeSlice T (.int .i64 C) (.int .i64 C)).run Tryz.prog w=.ok v w'∧OwnV E w.heap.size w' v (List.replicate n z)∧Below w.heap.size w w':=by
 subst hC
 obtain ⟨i,hi,hz0,hz1,hz2⟩:=info_parts oc.hi
 have hb:=oc.hb
 obtain ⟨w',hrun,r1,r2⟩:=run_make_full (P:=Tryz.prog) w w.heap.size T E i z 1 oc.ht hi hz0 hz1 .i64 .i64 n (by
  rw [hz2]
  calc b*n≤32*4398046511104:=Nat.mul_le_mul hb (by omega)
   _≤_:=by decide) (by unfold maxLen; omega) (Nat.le_refl _)
 refine ⟨_,w',hrun,?_,(Below.refl _ _).grown r2 (Nat.le_refl _) (by intro k hk; cases hk)⟩
 rw [oc.hz,toList_madeCells_one] at r1
 simpa [OwnV] using r1
def BefInv1 (w0:World) (N L d:Nat) (hd:List Value) (A:Value) (i:Nat) (w:World):Prop :=
 Below w0.heap.size w0 w∧hd.length=6∧hd[4]?=some A∧∃ f az,Rows w0.heap.size w f∧f (0,0)=some ⟨214,8,.slice (some ⟨d,0,none⟩) 1 1,1,hd++[Value.slice none 0 0,Value.bool false]⟩∧f (5,0)=some (rowV 178 A az)∧az.length=L ∧
  ∀ j,j<i→f (2,j)=some (rowV 4 (vAt az j) (List.replicate N (.bool false)))
theorem BefInv1.drew {w0:World} {N L d:Nat} {hd:List Value} {A:Value} {i:Nat} {w:World} (h:BefInv1 w0 N L d hd A i w):BefInv1 w0 N L d hd A i w.drew:=by
 obtain ⟨h1,h2,h3,f,az,h4,h5⟩:=h
 exact ⟨h1.drew,h2,h3,f,az,h4.drew,h5⟩
theorem BefInv1.cell4 {w0:World} {N L d:Nat} {hd:List Value} {A:Value} {i:Nat} {w:World} (h:BefInv1 w0 N L d hd A i w):w.cell? ⟨d,4,none⟩=some A:=by
 obtain ⟨h1,h2,h3,f,az,h4,h5,_⟩:=h
 rw [h4.cell h5 (g:=d) (cap:=1) rfl 4 (by simp),List.getElem?_append_left (by rw [h2]; decide),h3]
theorem BefInv1.idx {w0:World} {N L d:Nat} {hd:List Value} {A:Value} {i:Nat} {w:World} (h:BefInv1 w0 N L d hd A i w) (hi:i<L) (w':World) :
 (Instr.indexAt 195 A (.int .i64 i)).run Tryz.prog w'=.ok (.pointer (some (valAt A i))) w':=by
 obtain ⟨h1,h2,h3,f,az,h4,h5,h6,h7,_⟩:=h
 exact (h4.ownV h6).at.idx oneBoolss i (by omega) w'
theorem BefInv1.step {w0:World} {N L d:Nat} {hd:List Value} {A mv:Value} {i:Nat} {w w4:World} (h:BefInv1 w0 N L d hd A i w) (hi:i<L) (hb:Below w.heap.size w w4) (hm:OwnV 4 w.heap.size w4 mv (List.replicate N (.bool false))) :
 (∃ u,w4.cell? (valAt A i)=some u)∧w4.frozen? (valAt A i)=false∧BefInv1 w0 N L d hd A (i+1) (w4.setCell (valAt A i) mv):=by
 obtain ⟨h1,h2,h3,f,az,h4,h5,h6,h7,h8⟩:=h
 have r1:=h4.add (i:=(2,i)) (r':=rowV 4 mv (List.replicate N (.bool false))) hb (hm.mono h1.size) (fun k hk=>(hm.lt k hk).1)
 have e6:upd f (2,i) (some (rowV 4 mv (List.replicate N (.bool false)))) (5,0)=some (rowV 178 A az):=by rw [upd_ne _ _ (by simp)]; exact h6
 have hil:i<az.length:=by omega
 have hv:=r1.ownV e6
 have r2:=r1.setV e6 i hil mv
 refine ⟨⟨_,hv.at.cellV i hil⟩,hv.frz i hil,(h1.trans (hb.mono h1.size)).setCell (hv.blkB i hil).2 mv,h2,h3,_,_,r2,?_,upd_same _ _ _,by simpa using h7,fun j hj=>?_⟩
 ·rw [upd_ne _ _ (by simp),upd_ne _ _ (by simp)]; exact h5
 ·rw [upd_ne _ _ (by simp)]
  by_cases e:j=i
  ·subst e
   rw [upd_same]
   simp [vAt,List.getD,hil]
  ·rw [upd_ne _ _ (by simp [e]),h8 j (by omega)]
   simp [vAt,List.getD,Ne.symm e]
theorem below_drewN' {B:Nat} {w w':World} (h:Below B w w') (n:Nat):Below B w (w'.drewN n):=⟨h.os,h.tape,h.output,h.size,h.block⟩
theorem Rows.empty (B:Nat) (w:World):Rows B w (fun _=>Option.none):=by
 refine ⟨?_,?_⟩
 ·intro i r h; cases h
 ·intro i j r s h; cases h
theorem dead_rows {w0 w2:World} {N L:Nat} {A:Value} (hd:List Value) (h6:hd.length=6) (hA:OwnV 178 w0.heap.size w2 A (List.replicate L (.slice none 0 0))) (hb:Below w0.heap.size w0 w2) {cs:Array Value} (hcs:cs.toList=hd++[Value.slice none 0 0,Value.bool false]) (h4:hd[4]?=some A) :
 BefInv1 w0 N L w2.heap.size hd A 0 (w2.alloc (.cells cs 214)):=by
 have r1:=(Rows.empty w0.heap.size w0).add (i:=(5,0)) (r':=rowV 178 A (List.replicate L (.slice none 0 0))) hb hA (fun k hk=>(hA.lt k hk).1)
 have hlit:=World.ownsRow_lit (base:=w0.heap.size) (e:=214) (size:=8) w2 cs 1 hb.size (by unfold maxLen; omega) (by rw [← Array.length_toList,hcs]; simp [h6])
 rw [hcs] at hlit
 have r2:=r1.add (i:=(0,0)) (r':=⟨214,8,.slice (some ⟨w2.heap.size,0,none⟩) 1 1,1,hd++[Value.slice none 0 0,Value.bool false]⟩) (belowAlloc w2 (.cells cs 214)) hlit (fun k hk=>by
  have:w2.heap.size=k:=by simpa [Value.ownBlock] using hk
  omega)
 refine ⟨hb.alloc hb.size _,h6,h4,_,_,r2,upd_same _ _ _,by rw [upd_ne _ _ (by simp),upd_same],by simp,fun j hj=>by omega⟩
theorem keep4 {w w':World} {a0 a1 a2 a3:Addr} {u0 u1 u2 u3:Value} (h:w.cell? a0=some u0∧w.cell? a1=some u1∧w.cell? a2=some u2∧w.cell? a3=some u3) (hb:Below w.heap.size w w') :
 w'.cell? a0=some u0∧w'.cell? a1=some u1∧w'.cell? a2=some u2∧w'.cell? a3=some u3:=by
 obtain ⟨h0,h1,h2,h3⟩:=h
 have k:∀ {a:Addr} {u:Value},w.cell? a=some u→w'.cell? a=some u:=fun {a u} h=>(hb.cell (World.block_lt_of_cell? _ _ h)).trans h
 exact ⟨k h0,k h1,k h2,k h3⟩
def BefInv2 (w0:World) (K N R d m:Nat) (T ws:List Int) (hd:List Value) (A:Value) (bv:Value) (node:Nat) (w:World):Prop :=
 Below w0.heap.size w0 w∧∃ f az M lv ls LS more xs,Rows w0.heap.size w f∧DN f d hd A az ws.length N m M lv ls LS more∧Sound K N T ws M∧f (4,0)=some (rowI bv xs)∧(node<N→xs=digs K (2*R) node)∧((more=false→LS=allBefore K R T ws node)∧(more=true→m<(allBefore K R T ws node).length))
theorem BefInv1.two {w0:World} {K N R d m:Nat} {T ws:List Int} {hd:List Value} {A bv:Value} {w w':World} (h:BefInv1 w0 N ws.length d hd A ws.length w) (hb:Below w.heap.size w w') (ho:OwnI w.heap.size w' bv (List.replicate (2*R) 0)):BefInv2 w0 K N R d m T ws hd A bv 0 w':=by
 obtain ⟨h1,h2,h3,f,az,h4,h5,h6,h7,h8⟩:=h
 have r1:=h4.add (i:=(4,0)) (r':=rowI bv (List.replicate (2*R) 0)) hb (ho.mono h1.size) (fun k hk=>(ho.lt k hk).1)
 have r2:=r1.add (i:=(1,0)) (r':=rowV 22 (.slice none 0 0) []) (Below.refl _ _) (OwnV.nil 22 w0.heap.size w') (fun k hk=>by cases hk)
 refine ⟨h1.trans (hb.mono h1.size),_,az,fun _=>List.replicate N false,.slice none 0 0,[],[],false,List.replicate (2*R) 0,r2,⟨?_,h2,?_,h7,fun i hi=>?_,upd_same _ _ _,rfl,fun j hj=>by simp at hj,by simp⟩,fun i node _ hm=>?_,?_,fun _=>(digs_zero K (2*R)).symm,⟨fun _=>rfl,fun h=>by cases h⟩⟩
 ·rw [upd_ne _ _ (by simp),upd_ne _ _ (by simp)]; exact h5
 ·rw [upd_ne _ _ (by simp),upd_ne _ _ (by simp)]; exact h6
 ·rw [upd_ne _ _ (by simp),upd_ne _ _ (by simp),h8 i hi]; simp
 ·rw [List.getElem?_replicate] at hm; split at hm<;>cases hm
 ·rw [upd_ne _ _ (by simp),upd_same]
def BefPost (m K R:Nat) (T ws:List Int) (x y:Value) (w':World):Prop :=
 ∃ (ls:List Value) (LS:List (List Int)) (more:Bool),y=.bool more∧ValsAt w' x ls∧ls.length=LS.length∧LS.length≤m∧(∀ j,j<ls.length→IntsAt w' (vAt ls j) (LS.getD j []))∧(more=false→LS=allBefore K R T ws (pw K (2*R)))∧(more=true→m<(allBefore K R T ws (pw K (2*R))).length)
theorem allBefore_le (K R:Nat) (T ws:List Int) {n N:Nat} (h:n≤N):(allBefore K R T ws n).length≤(allBefore K R T ws N).length:=by
 obtain ⟨d,rfl⟩:∃ d,N=n+d:=⟨N-n,by omega⟩
 induction d with
 | zero=>exact Nat.le_refl _
 | succ d ih=>rw [← Nat.add_assoc,allBefore_succ,List.length_append]; exact Nat.le_trans (ih (by omega)) (Nat.le_add_right _ _)
theorem before_ok (r:Nat→Addr) (K R:Nat) (va:Option Addr) (vn vc:Nat) (T:List Int) (u:Value) (ws:List Int) (w:World) (hg:Glob r w) (h:IntsAt w (.slice va vn vc) T) (hu:IntsAt w u ws) (hok:RuleOk K R T) (hc:overP K R T ws 256=none) (hT256:T.length≤256) (hwl:ws.length≤256) (m:Nat) (hm256:m≤256) :
 Calls Tryz.prog 86 #[.agg #[.int .i64 K,.int .i64 R,.slice va vn vc],u,.int .i64 m] w (Ret3 (fun x y z w'=>z=.nilIface∧BefPost m K R T ws x y w') w):=by
 have b0:=belowAlloc w (.cells #[.int .i64 K,.int .i64 R,.slice va vn vc] 24)
 have q:Box3 (w.alloc (.cells #[.int .i64 K,.int .i64 R,.slice va vn vc] 24)) w.heap.size (.int .i64 K) (.int .i64 R) (.slice va vn vc):=by simp [Box3,go_sem]
 obtain ⟨ua,un,uc,rfl⟩:=hu.shape
 have lw:=hu.len
 replace hg:=Hd (hg.below b0)
 replace h:=Hd (h.below b0)
 replace hu:=Hd (hu.below b0)
 replace hc:=Hd hc
 have hk1:=hok.k1
 have hk4:=hok.k4
 have hR:=hok.r3
 replace hok:=Hd hok
 go_enter Tryz.func86,Tryz.ntmps86
 go_wp2_with fail
 refine (over_check r K R va vn vc T _ ws 256 _ hg.out h.out hu.out).mono ?_
 rintro e w1 ⟨x,rfl,b1,he⟩
 rw [hc.out] at he
 obtain rfl:=he.none_eq
 clear he
 go_wp2
 refine wp_region_plan (fun w'=>w'.cell? ⟨w.heap.size,0,none⟩=some (.int .i64 K)∧w'.cell? ⟨w.heap.size,1,none⟩=some (.int .i64 R)∧w'.cell? ⟨w.heap.size,2,none⟩=some (.slice va vn vc)) 8 [(0,true),(1,true),(2,true),(3,true),(4,true),(5,false),(6,true),(7,false)] (by kernel_rfl) (by kernel_rfl) ?_
 obtain ⟨w0,hw0⟩:∃ w0,w0=w1.drew:=⟨_,rfl⟩
 rw [← hw0]
 have q0:Box3 w0 w.heap.size (.int .i64 K) (.int .i64 R) (.slice va vn vc):=by rw [hw0]; exact (q.below b1).drew
 have hT0:=Hd (show IntsAt w0 (.slice va vn vc) T by rw [hw0]; exact (h.out.below b1).drew)
 have hW0:=Hd (show IntsAt w0 (.slice ua un uc) ws by rw [hw0]; exact (hu.out.below b1).drew)
 have hB0:=Hd (show Below w.heap.size w w0 by rw [hw0]; exact (Below.step b0 b1).drew)
 have hlt0:w.heap.size<w0.heap.size:=World.block_lt_of_cell? _ _ q0.1.1
 clear hw0
 obtain ⟨A,w2,hmk,hA,hb8⟩:=run_makeV oneBoolss (ws.length:Int) ws.length w0 rfl (by omega)
 obtain ⟨Aa,An,Ac,rfl⟩:=hA.shape
 have hS:=q0.1
 refine pqY 30 hS ?_
 refine pqY 31 hS ?_
 refine pqY 32 hS ?_
 refine pqY 33 hS ?_
 refine pqY 34 hS ?_
 refine headC rfl (fun KK hK=>?_)
 go_simp
 have hS8:=keep3 hb8 hS
 refine hK _ _ hS8 ?_
 clear hK KK
 refine pqY 36 hS8 ?_
 refine headC rfl (fun KK hK=>?_)
 go_simp
 refine hK _ _ (keep3 (belowAlloc _ _) hS8) ?_
 clear hK KK
 refine head0 ?_
 simp only [List.drop_succ_cons,List.drop_zero]
 obtain ⟨W,hWe⟩:∃ W:World,W=w2.alloc (.cells #[.int .i64 K,.int .i64 R,.slice va vn vc,.slice ua un uc,.slice Aa An Ac,.int .i64 m,.slice none 0 0,.bool false] 214):=⟨_,rfl⟩
 rw [← hWe]
 have hI:=dead_rows (N:=T.length/K) [.int .i64 K,.int .i64 R,.slice va vn vc,.slice ua un uc,.slice Aa An Ac,.int .i64 m] rfl hA hb8 (cs:=#[.int .i64 K,.int .i64 R,.slice va vn vc,.slice ua un uc,.slice Aa An Ac,.int .i64 m,.slice none 0 0,.bool false]) rfl rfl
 rw [← hWe] at hI
 have lA:=fun w'=>hA.at.len oneBoolss 3 w'
 rw [List.length_replicate] at lA
 have hB0W:=hI.1
 have mA:=hI.cell4
 have q0W:=q0.belowB hB0W hlt0
 clear hS hS8 hmk hA hb8
 generalize w2.heap.size=d at *
 obtain ⟨N,hN⟩:∃ N,T.length/K=N:=⟨_,rfl⟩
 rw [hN] at hI
 have hNl:N≤256:=by rw [← hN]; exact Nat.le_trans (Nat.div_le_self _ _) hT256
 have hNp:N=pw K (2*R):=by rw [← hN]; exact hok.out.half.1
 have hN1:1≤N:=by rw [hNp]; exact pw_pos _ hk1
 replace hN:=Hd hN
 replace hNp:=Hd hNp
 replace hWe:=Hd hWe
 obtain ⟨y0,y1,y2⟩:=q0W.1
 go_wp2
 refine NoPanic.normal ?_
 go_wp2
 clear y0 y1 y2 mA
 go_loopw [43] (fun iv wr=>∃ i:Nat,i≤ws.length∧iv=.int .i64 i∧BefInv1 w0 N ws.length d [.int .i64 K,.int .i64 R,.slice va vn vc,.slice ua un uc,.slice Aa An Ac,.int .i64 m] (.slice Aa An Ac) i wr) (fun iv _=>ws.length-(intOf iv).toNat)
 case atStart=>exact ⟨0,by omega,rfl,hI⟩
 case round =>
  obtain ⟨i,hi,rfl,hI⟩:=hrel
  obtain ⟨wo,rfl⟩:∃ wo:World,wo=wr:=⟨_,rfl⟩
  by_cases hlt:i<ws.length
  ·go_wp2
   refine wp_region_plan (fun w'=>w'.cell? ⟨w.heap.size,0,none⟩=some (.int .i64 K)∧w'.cell? ⟨w.heap.size,1,none⟩=some (.int .i64 R)∧w'.cell? ⟨w.heap.size,2,none⟩=some (.slice va vn vc)∧w'.cell? ⟨d,4,none⟩=some (.slice Aa An Ac)) 9 [(0,true),(1,true),(2,true),(3,true),(4,true),(5,true),(6,false),(7,false),(8,true)] (by kernel_rfl) (by kernel_rfl) ?_
   obtain ⟨W3,hW3⟩:∃ W3:World,W3=wo.drew:=⟨_,rfl⟩
   rw [← hW3]
   have hI3:BefInv1 w0 N ws.length d [.int .i64 K,.int .i64 R,.slice va vn vc,.slice ua un uc,.slice Aa An Ac,.int .i64 m] (.slice Aa An Ac) i W3:=by rw [hW3]; exact hI.drew
   replace hW3:=Hd hW3
   have hB3:=hI3.1
   have iA:=hI3.idx hlt
   have hS:W3.cell? ⟨w.heap.size,0,none⟩=some (.int .i64 K)∧W3.cell? ⟨w.heap.size,1,none⟩=some (.int .i64 R)∧W3.cell? ⟨w.heap.size,2,none⟩=some (.slice va vn vc)∧W3.cell? ⟨d,4,none⟩=some (.slice Aa An Ac) :=
    have q3:=(q0.belowB hB3 hlt0).1
    ⟨q3.1,q3.2.1,q3.2.2,hI3.cell4⟩
   have hS6:=keep4 hS (belowAlloc W3 (.cells #[.int .i64 K,.int .i64 R,.slice va vn vc] 24))
   obtain ⟨mv,w4,hmk2,hm2,hb4⟩:=run_makeV oneBools (N:Int) N (W3.alloc (.cells #[.int .i64 K,.int .i64 R,.slice va vn vc] 24)) rfl (by omega)
   have hS12:=keep4 hS6 hb4
   have hb5:=Below.step (belowAlloc W3 (.cells #[.int .i64 K,.int .i64 R,.slice va vn vc] 24)) hb4
   obtain ⟨ma,mn,mc,rfl⟩:=hm2.shape
   obtain ⟨⟨ov,hov⟩,hof,hIn⟩:=hI3.step hlt hb5 (hm2.mono (by simp))
   generalize valAt (.slice Aa An Ac) i=pa at iA hov hof hIn
   clear hI
   refine pqY 46 hS ?_
   refine pqY 47 hS ?_
   refine pqY 48 hS ?_
   refine pqY 49 hS ?_
   refine pqY 50 hS ?_
   refine pqY 51 hS ?_
   refine headC rfl (fun KK hK=>?_)
   go_simp
   refine (over_nodes K R va vn vc T _ (hT0.out.below hB3) (by omega) (by omega)).mono ?_
   rintro e W4 ⟨rfl,rfl⟩
   rw [hN.out]
   refine hK _ _ hS6 ?_
   clear hK KK
   refine headC rfl (fun KK hK=>?_)
   go_simp
   refine hK _ _ hS12 ?_
   clear hK KK
   refine pqY 54 hS12 ?_
   refine head0 ?_
   simp only [List.drop_succ_cons,List.drop_zero]
   clear hS hS6 hS12 hmk2
   replace hIn:=Hd hIn
   replace hI3:=Hd hI3
   go_wp2
   refine NoPanic.normal ?_
   go_wp2
   go_roundw
   case rel=>exact ⟨i+1,by omega,by go_num,hIn.out⟩
   case measure=>simp [intOf]; omega
  ·obtain rfl:i=ws.length:=by omega
   obtain ⟨bv,w5,hmk3,hbo,hb5⟩:=run_makeI (2*(R:Int)) (2*R) wo (by omega) (by omega)
   have q1:=(q0.belowB hI.1 hlt0).1
   obtain ⟨y0,y1,y2⟩:=q1
   have hI2:BefInv2 w0 K N R d m T ws [.int .i64 K,.int .i64 R,.slice va vn vc,.slice ua un uc,.slice Aa An Ac,.int .i64 m] (.slice Aa An Ac) bv 0 w5:=hI.two hb5 hbo
   replace hI:=Hd hI
   replace hI2:=Hd hI2
   replace hbo:=Hd hbo
   clear lA
   go_wp2
   clear y0 y1 y2 hmk3
   go_loopw [12,13] (fun bv' nv wr=>∃ (node:Nat) (bw:Value),node≤N∧nv=.int .i64 node∧bw=bv'∧BefInv2 w0 K N R d m T ws [.int .i64 K,.int .i64 R,.slice va vn vc,.slice ua un uc,.slice Aa An Ac,.int .i64 m] (.slice Aa An Ac) bw node wr) (fun _ nv _=>N-(intOf nv).toNat)
   case atStart=>exact ⟨0,bv,by omega,rfl,rfl,hI2.out⟩
   case round =>
    obtain ⟨node,bw,hno,rfl,rfl,hBn,f,az,M,lv,ls,LS,more,xs,hr,D,hso,hx,hdg,hall⟩:=hrel
    obtain ⟨wp,rfl⟩:∃ wp:World,wp=wr:=⟨_,rfl⟩
    have hqn:=(q0.belowB hBn hlt0)
    obtain ⟨y0,y1,y2⟩:=hqn.1
    have hqA:=hqn.alloc (.cells #[.int .i64 K,.int .i64 R,.slice va vn vc] 24)
    have hbA:=belowAlloc wp (.cells #[.int .i64 K,.int .i64 R,.slice va vn vc] 24)
    obtain ⟨WA,hWA⟩:∃ WA:World,WA=wp.alloc (.cells #[.int .i64 K,.int .i64 R,.slice va vn vc] 24):=⟨_,rfl⟩
    rw [← hWA] at hbA hqA
    replace hWA:=Hd hWA
    have m7:=D.cell7 (hr.below hbA)
    have m6:=D.cell6 (hr.below hbA)
    have hBA:=hBn.trans (hbA.mono hBn.size)
    replace hso:=Hd hso
    replace hdg:=Hd hdg
    replace hall:=Hd hall
    replace hx:=Hd hx
    clear hI hI2 hbo
    by_cases hlt:node<N
    ·cases more with
     | false =>
      have hxs:=hdg.out hlt
      subst hxs
      have hLS:=hall.out.1 rfl
      subst hLS
      have hon:=on_any w0 K N R T ws d va vn vc ua un uc (.slice Aa An Ac) az m hok.out hN.out hT256 hm256 hwl hT0.out hW0.out ws.length 0 (by omega) f M lv ls _ bw (digs K (2*R) node) node _ (hr.below hbA) hBA D hso.out hx.out (by rw [digs_length]; omega) hlt
      rw [List.drop_zero] at hon
      replace hon:=Hd hon
      go_wp2_with fail
      refine (over_nodes K R va vn vc T _ (hT0.out.below hBn) (by omega) (by omega)).mono ?_
      rintro e W3 ⟨rfl,hW3⟩
      rw [hN.out,hW3,← hWA.out]
      clear y0 y1 y2 hW3
      go_wp2_with fail
      refine hon.out.mono ?_
      rintro e w6 ⟨ret,f6,M6,lv6,ls6,LS6,more6,rfl,hr6,hB6,D6,hso6,hfk6,hst6⟩
      have hB06:=hBA.trans hB6
      have hx6:=(hfk6 0 (Nat.le_refl _)).trans hx.out
      have hall6:(more6=false→LS6=allBefore K R T ws (node+1))∧(more6=true→m<(allBefore K R T ws (node+1)).length):=by
       rcases hst6 with ⟨_,e1,e2,_⟩ | ⟨e0,e2,_⟩
       ·exact ⟨fun _=>(by rw [e1,allBefore_succ,hNp.out]),fun q=>(by rw [e2] at q; cases q)⟩
       ·exact ⟨fun q=>(by rw [e2] at q; cases q),fun _=>(by rw [allBefore_succ,List.length_append,← hNp.out]; exact e0)⟩
      clear hst6 m6 m7
      obtain ⟨y0,y1,y2⟩:=(q0.belowB hB06 hlt0).1
      replace hall6:=Hd hall6
      replace hfk6:=Hd hfk6
      replace hso6:=Hd hso6
      replace hx6:=Hd hx6
      by_cases hR0:0<2*R
      ·have hxo:=hr6.ownI hx6.out
       go_wp2_with fail
       refine (word_next_digs K (2*R) node bw _ hxo.at hk1 hk4 (by omega) (by rw [← hNp.out]; exact hlt)).mono ?_
       rintro e w7 ⟨o,_,rfl,hb7,rfl,zs,hoz,hz⟩
       have r7:=hr6.add (i:=(4,0)) (r':=rowI o zs) hb7 (hoz.mono hB06.size) (fun k hk=>(hoz.lt k hk).1)
       have D7:=D6.congr (f':=upd f6 (4,0) (some (rowI o zs))) (fun j hj=>upd_ne _ _ (fun e=>hj (by rw [e])))
       have hB07:=hB06.trans (hb7.mono hB06.size)
       replace r7:=Hd r7
       replace hoz:=Hd hoz
       replace hz:=Hd hz
       clear y0 y1 y2
       go_wp2
       go_roundw
       case rel=>exact ⟨node+1,_,by omega,by go_num,rfl,hB07,_,az,M6,lv6,ls6,LS6,more6,zs,r7.out,D7,hso6.out,upd_same _ _ _,fun h=>hz.out (by rw [← hNp.out]; exact h),hall6.out⟩
       case measure=>simp [intOf]; omega
      ·have hN1:N=1:=by rw [hNp.out,show 2*R=0 by omega]; rfl
       go_wp2
       go_roundw
       case rel=>exact ⟨node+1,_,by omega,by go_num,rfl,hB06,f6,az,M6,lv6,ls6,LS6,more6,_,hr6,D6,hso6.out,hx6.out,fun h=>by omega,hall6.out⟩
       case measure=>simp [intOf]; omega
     | true =>
      go_wp2_with fail
      refine (over_nodes K R va vn vc T _ (hT0.out.below hBn) (by omega) (by omega)).mono ?_
      rintro e W3 ⟨rfl,hW3⟩
      rw [hN.out,hW3,← hWA.out]
      clear y0 y1 y2 hW3
      go_wp2
      go_quiet (fail)
      go_wp2
      go_ret3
      refine ⟨_,_,_,rfl,hB0.out.trans (below_drewN' (hBA.mono (Nat.le_of_lt hlt0)) nq),rfl,ls,LS,true,rfl,(D.listV ((hr.below hbA).drewN nq)).at,D.llen,D.lmost,fun j hj=>(((hr.below hbA).drewN nq).ownI (D.items j hj)).at,(fun h=>by cases h),fun _=>Nat.lt_of_lt_of_le (hall.out.2 (by simp)) (allBefore_le K R T ws (by rw [← hNp.out]; exact hno))⟩
    ·obtain rfl:node=N:=by omega
     go_wp2_with fail
     refine (over_nodes K R va vn vc T _ (hT0.out.below hBn) (by omega) (by omega)).mono ?_
     rintro e W3 ⟨rfl,hW3⟩
     rw [hN.out,hW3,← hWA.out]
     clear y0 y1 y2 hW3
     go_wp2
     go_quiet (fail)
     go_wp2
     go_ret3
     refine ⟨_,_,_,rfl,hB0.out.trans (below_drewN' (hBA.mono (Nat.le_of_lt hlt0)) nq),rfl,ls,LS,more,rfl,(D.listV ((hr.below hbA).drewN nq)).at,D.llen,D.lmost,fun j hj=>(((hr.below hbA).drewN nq).ownI (D.items j hj)).at,(fun h=>by rw [hall.out.1 h,hNp.out]),fun h=>by have:=hall.out.2 h; rw [hNp.out] at this; exact this⟩
theorem has_ok (r:Nat→Addr) (K R:Nat) (va:Option Addr) (vn vc:Nat) (T:List Int) (ua:Option Addr) (un uc:Nat) (ws:List Int) (w:World) (hg:Glob r w) (h:IntsAt w (.slice va vn vc) T) (hu:IntsAt w (.slice ua un uc) ws) (hok:RuleOk K R T) (hc:overP K R T ws 256=none) (hl:T.length≤256) (hwl:ws.length≤256) :
 Calls Tryz.prog 35 #[.agg #[.int .i64 K,.int .i64 R,.slice va vn vc],.slice ua un uc] w (Ret2 (fun x y _=>x=.bool (decide (allBefore K R T ws (pw K (2*R))≠[]))∧y=.nilIface) w):=by
 have b0:=belowAlloc w (.cells #[.int .i64 K,.int .i64 R,.slice va vn vc] 24)
 have q:Box3 (w.alloc (.cells #[.int .i64 K,.int .i64 R,.slice va vn vc] 24)) w.heap.size (.int .i64 K) (.int .i64 R) (.slice va vn vc):=by simp [Box3,go_sem]
 have bef:=before_ok r K R va vn vc T _ ws _ (hg.below b0) (h.below b0) (hu.below b0) hok hc hl hwl 0 (by decide)
 obtain ⟨⟨z0,z1,z2⟩,-,-,-⟩:=q
 obtain ⟨A,hA⟩:∃ A,allBefore K R T ws (pw K (2*R))=A:=⟨_,rfl⟩
 unfold BefPost at bef
 rw [hA] at bef ⊢
 clear hg h hu hok hc
 replace hA:=Hd hA
 go_enter Tryz.func35,Tryz.ntmps35
 go_wp2_with fail
 refine bef.mono ?_
 clear bef
 rintro e w1 ⟨l,_,_,rfl,b1,rfl,ls,LS,more,rfl,hV,hll,hlm,-,h0,h1⟩
 have b01:=Below.step b0 b1
 obtain rfl:LS=[]:=List.eq_nil_of_length_eq_zero (by omega)
 obtain rfl:ls=[]:=List.eq_nil_of_length_eq_zero (by simpa using hll)
 have ll:=hV.len oneLists
 obtain ⟨la,lc,rfl,-⟩:=id hV
 have hm:more=decide (A≠[]):=by
  cases more with
  | true=>have:=h1 rfl; symm; exact decide_eq_true (fun e=>by rw [e] at this; cases this)
  | false=>have:=h0 rfl; symm; exact decide_eq_false (fun e=>e this.symm)
 clear h0 h1 z0 z1 z2
 replace hV:=Hd hV
 replace hm:=Hd hm
 have lz:(([]:List Value).length:Int)=0:=rfl
 cases more<;>(go_wp2; go_ret2; exact ⟨_,_,rfl,b01,congrArg Value.bool hm.out,rfl⟩)
structure Known (n ρ:Int) (Y F L P:Bool):Prop where
 one:n=1→F=true
 two:n=2→F=false
 any:Y=true∨L=true∨P=true→F=true
 inv:0≤ρ→Y=true
 lo:-1≤ρ
 hi:ρ≤3
 n3:n=1∨n=2∨n=3
theorem known_of {K R:Nat} {T:List Int} (hr:RuleOk K R T) (hl:T.length≤256) {Y F:Bool} (hY:Y=true↔¬ NotOne K R T) (hF:F=true↔∀ x y,¬ IsTwins K R T x y) :
 Known (ontoN (subR K (pw K (2*R)) T)) (radL K R T) Y F (unlikeP K T (T.length/K)) (unlikeP K T 1):=by
 have hrad:radL K R T=-1∨(invE K R T=none∧0≤radL K R T∧radL K R T≤3):=by
  unfold radL
  by_cases e:invE K R T=none
  ·rw [if_pos e]
   refine .inr ⟨e,?_⟩
   unfold radN
   rw [e]
   simp only [Int.toNat_natCast]
   obtain ⟨i1,i2,i3⟩:=invE_ok hr hl
   cases hf:findP K R T with
   | none =>
    by_cases hno:NotOne K R T
    ·rw [i1 hno] at e; cases e
    ·rw [i2 hno hf] at e; cases e
   | some p =>
    obtain ⟨d,S⟩:=p
    obtain ⟨-,hd,-⟩:=find_some 4 0 hf
    simp; omega
  ·rw [if_neg e]; exact .inl rfl
 have hinv:0≤radL K R T→Y=true:=fun q=>by
  rcases hrad with h | ⟨e,-,-⟩
  ·omega
  ·exact hY.2 (fun hno=>by rw [(invE_ok hr hl).1 hno] at e; cases e)
 refine ⟨fun q=>?_,fun q=>?_,fun q=>?_,hinv,by rcases hrad with h | h<;>omega,by rcases hrad with h | h<;>omega,?_⟩
 ·cases hs:subR K (pw K (2*R)) T with
  | on a b=>exact hF.2 (sub_on_twins hr hs)
  | orphan w=>rw [hs] at q; cases q
  | big=>rw [hs] at q; cases q
 ·cases hs:subR K (pw K (2*R)) T with
  | on a b=>rw [hs] at q; cases q
  | orphan w =>
   obtain ⟨x,y,t⟩:=sub_orphan_twins hr hs
   cases F with
   | false=>rfl
   | true=>exact absurd t (hF.1 rfl x y)
  | big=>rw [hs] at q; cases q
 ·rcases q with q | q | q
  ·exact hF.2 fun x y t=>hY.1 q (t.notOne hr.k1)
  ·exact hF.2 (side_no_twins hr (.inl q))
  ·exact hF.2 (side_no_twins hr (.inr q))
 ·cases subR K (pw K (2*R)) T with
  | on a b=>exact .inl rfl
  | orphan w=>exact .inr (.inl rfl)
  | big=>exact .inr (.inr rfl)
theorem labKnown_bad (r:Nat→Addr) (k R:Int) (va:Option Addr) (vn vc:Nat) (T:List Int) (w:World) (hg:Glob r w) (hG:GlobE w) (h:IntsAt w (.slice va vn vc) T) (t:Int×List (ByteArray×Int)) (hc:smallP k R T=some t) :
 Calls Tryz.prog 9 #[.agg #[.int .i64 k,.int .i64 R,.slice va vn vc]] w (Ret1 (fun x _=>x=.bool true) w):=by
 have b0:=belowAlloc w (.cells #[.int .i64 k,.int .i64 R,.slice va vn vc] 24)
 have q:Box3 (w.alloc (.cells #[.int .i64 k,.int .i64 R,.slice va vn vc] 24)) w.heap.size (.int .i64 k) (.int .i64 R) (.slice va vn vc):=by simp [Box3,go_sem]
 replace hg:=Hd (hg.below b0)
 replace hG:=Hd (hG.below b0)
 replace h:=Hd (h.below b0)
 replace hc:=Hd hc
 go_enter Tryz.func9,Tryz.ntmps9
 go_wp2_with fail
 refine (awake26 r _ hg.out hG.out).mono ?_
 rintro e w1 ⟨_,rfl,b1,rfl⟩
 obtain ⟨⟨q_0,q_1,q_2⟩,-,-,-⟩:=(q.below b1)
 go_wp2_with fail
 refine (heavy26 r k R va vn vc T _ (hg.out.below b1) (h.out.below b1)).mono ?_
 rintro e w2 ⟨_,rfl,b2,hv,rfl,hvi⟩
 clear q_0 q_1 q_2
 obtain rfl:hv=false:=by
  cases hv with
  | false=>rfl
  | true=>have:=(hvi.1 rfl).2; rw [hc.out] at this; cases this
 clear hvi
 have c0_2:=Below.step b1 b2
 obtain ⟨⟨q_0,q_1,q_2⟩,-,-,-⟩:=(q.below c0_2)
 go_wp2_with fail
 refine (look_bad r k R va vn vc T t _ (hg.out.below c0_2) (h.out.below c0_2) hc.out).mono ?_
 rintro e w3 ⟨_,y3,rfl,b3,rfl,he3⟩
 obtain ⟨T3,p3,rfl⟩:∃ T a,y3=.iface T (.pointer (some a)):=by
  unfold under at he3
  exact he3.some_shape
 clear he3
 clear q_0 q_1 q_2
 have al3:=(belowAlloc w3 (.cells #[.int .i64 0,.slice none 0 0,.bool false,.bool false,.int .i64 0,.bool false,.slice none 0 0,.bool false,.bool false] 46))
 have d3:=Below.step b3 al3
 have u3:=Cells9.alloc w3 46 (.int .i64 0) (.slice none 0 0) (.bool false) (.bool false) (.int .i64 0) (.bool false) (.slice none 0 0) (.bool false) (.bool false)
 obtain ⟨u3_0,u3_1,u3_2,u3_3,u3_4,u3_5,u3_6,u3_7,u3_8⟩:=id u3
 have hs:=same_eq 0 0 false false false false false none 0 0 none 0 0 none 0 0 none 0 0 [] [] (w3.alloc (.cells #[.int .i64 0,.slice none 0 0,.bool false,.bool false,.int .i64 0,.bool false,.slice none 0 0,.bool false,.bool false] 46)) (OwnI.nil 0 _).at (OwnI.nil 0 _).at (OwnI.nil 0 _).at (OwnI.nil 0 _).at
 go_wp2_with fail
 refine (hs).mono ?_
 rintro e w4 ⟨_,rfl,b4,rfl⟩
 clear u3_0 u3_1 u3_2 u3_3 u3_4 u3_5 u3_6 u3_7 u3_8
 have c0_3:=Below.step c0_2 d3
 have c0_4:=Below.step c0_3 b4
 have bE:=Below.step b0 c0_4
 go_wp2
 go_ret
 exact ⟨_,rfl,bE,rfl⟩
theorem labKnown_ok (r:Nat→Addr) (K R:Nat) (va:Option Addr) (vn vc:Nat) (T:List Int) (w:World) (hg:Glob r w) (hG:GlobE w) (h:IntsAt w (.slice va vn vc) T) (hr:RuleOk K R T) (hl:T.length≤256) :
 Calls Tryz.prog 9 #[.agg #[.int .i64 K,.int .i64 R,.slice va vn vc]] w (Ret1 (fun x _=>x=.bool true) w):=by
 have b0:=belowAlloc w (.cells #[.int .i64 K,.int .i64 R,.slice va vn vc] 24)
 have q:Box3 (w.alloc (.cells #[.int .i64 K,.int .i64 R,.slice va vn vc] 24)) w.heap.size (.int .i64 K) (.int .i64 R) (.slice va vn vc):=by simp [Box3,go_sem]
 replace hg:=Hd (hg.below b0)
 replace hG:=Hd (hG.below b0)
 replace h:=Hd (h.below b0)
 have hkn:=fun (Y F:Bool)=>known_of (Y:=Y) (F:=F) hr hl
 have hfl:isSum K R T=true→(facR K R T).length=2*R+1:=fun e=>by unfold facR; rw [if_pos e,facs_length]
 have hfl0:isSum K R T=false→facR K R T=[]:=fun e=>by unfold facR; rw [e]; rfl
 obtain ⟨S,hS⟩:∃ S,subR K (pw K (2*R)) T=S:=⟨_,rfl⟩
 rw [hS] at hkn
 replace hr:=Hd hr
 replace hkn:=Hd hkn
 replace hfl:=Hd hfl
 replace hfl0:=Hd hfl0
 replace hS:=Hd hS
 go_enter Tryz.func9,Tryz.ntmps9
 go_wp2_with fail
 refine (awake26 r _ hg.out hG.out).mono ?_
 rintro e w1 ⟨_,rfl,b1,rfl⟩
 obtain ⟨⟨q_0,q_1,q_2⟩,-,-,-⟩:=(q.below b1)
 go_wp2_with fail
 refine (heavy26 r K R va vn vc T _ (hg.out.below b1) (h.out.below b1)).mono ?_
 rintro e w2 ⟨_,rfl,b2,hv,rfl,hvi⟩
 clear q_0 q_1 q_2
 clear hvi
 cases hv with
 | true =>
  have c0_2:=Below.step b1 b2
  have bE:=Below.step b0 c0_2
  go_wp2
  go_ret
  exact ⟨_,rfl,bE,rfl⟩
 | false =>
  have c0_2:=Below.step b1 b2
  obtain ⟨⟨q_0,q_1,q_2⟩,-,-,-⟩:=(q.below c0_2)
  go_wp2_with fail
  refine (look_ok r K R va vn vc T _ (hg.out.below c0_2) (hG.out.below c0_2) (h.out.below c0_2) hr.out hl).mono ?_
  rintro e w3 ⟨_,_,rfl,b3,rfl,Y,F,oa,on,oc,fa,fn,fc,hY,hF,rfl,hA,hB,-⟩
  clear q_0 q_1 q_2
  have hK:=hkn.out Y F hY hF
  clear hY hF
  rw [hS.out] at hA
  rw [hS.out]
  obtain ⟨N,hN⟩:∃ N,ontoN S=N:=⟨_,rfl⟩
  obtain ⟨X,hX⟩:∃ N,radL K R T=N:=⟨_,rfl⟩
  obtain ⟨Z,hZ⟩:∃ N,isSum K R T=N:=⟨_,rfl⟩
  obtain ⟨L,hL⟩:∃ N,unlikeP K T (T.length/K)=N:=⟨_,rfl⟩
  obtain ⟨P,hP⟩:∃ N,unlikeP K T 1=N:=⟨_,rfl⟩
  obtain ⟨ol,hol⟩:∃ N,orphL S=N:=⟨_,rfl⟩
  obtain ⟨fl,hfr⟩:∃ N,facR K R T=N:=⟨_,rfl⟩
  rw [hN,hX,hZ,hL,hP]
  rw [hN,hX,hL,hP] at hK
  rw [hol] at hA
  rw [hfr] at hB
  have lA:=hA.at.len
  have lB:=hB.at.len
  have hfz:decide ((0:Int)<(fl.length:Int))=Z:=by
   cases hZ2:Z with
   | true=>have:=hfl.out (hZ.trans hZ2); rw [hfr] at this; exact decide_eq_true (by omega)
   | false=>have:=hfl0.out (hZ.trans hZ2); rw [hfr] at this; exact decide_eq_false (by rw [this]; simp)
  replace hK:=Hd hK
  replace hN:=Hd hN
  replace hX:=Hd hX
  replace hZ:=Hd hZ
  replace hL:=Hd hL
  replace hP:=Hd hP
  replace hol:=Hd hol
  replace hfr:=Hd hfr
  have al3:=(belowAlloc w3 (.cells #[.int .i64 N,.slice oa on oc,.bool Y,.bool F,.int .i64 X,.bool Z,.slice fa fn fc,.bool L,.bool P] 46))
  have d3:=Below.step b3 al3
  have u3:=Cells9.alloc w3 46 (.int .i64 N) (.slice oa on oc) (.bool Y) (.bool F) (.int .i64 X) (.bool Z) (.slice fa fn fc) (.bool L) (.bool P)
  replace hA:=Hd (hA.below al3)
  clear hB
  obtain ⟨W3,hW3⟩:∃ W:World,(w3.alloc (.cells #[.int .i64 N,.slice oa on oc,.bool Y,.bool F,.int .i64 X,.bool Z,.slice fa fn fc,.bool L,.bool P] 46))=W:=⟨_,rfl⟩
  rw [hW3] at u3 hA d3
  replace hW3:=Hd hW3
  go_upto_region 8 with fail
  rw [hW3.out]
  obtain ⟨u3_0,u3_1,u3_2,u3_3,u3_4,u3_5,u3_6,u3_7,u3_8⟩:=id u3
  go_cut [84] from 21 (fun s84 wx=>s84=.bool false∧wx=W3)
  case first =>
   have dl:decide (X < -1)=false:=decide_eq_false (by have:=hK.out.lo; omega)
   have dh:decide (3<X)=false:=decide_eq_false (by have:=hK.out.hi; omega)
   have hcs:N=1∨N=2∨N=3:=hK.out.n3
   rcases Int.lt_or_le X 0 with hX0 | hX0
   ·have d0:decide (0≤X)=false:=decide_eq_false (by omega)
    rcases hcs with rfl | rfl | rfl
    ·cases F<;>cases Y<;>cases L<;>cases P
     all_goals first
      | (exfalso; have h1:=hK.out.one; have h2:=hK.out.two; have h3:=hK.out.any; simp at h1 h2 h3; done)
      | (go_wp2; go_meet; case rel=>exact ⟨rfl,rfl⟩)
    ·cases F<;>cases Y<;>cases L<;>cases P
     all_goals first
      | (exfalso; have h1:=hK.out.one; have h2:=hK.out.two; have h3:=hK.out.any; simp at h1 h2 h3; done)
      | (go_wp2; go_meet; case rel=>exact ⟨rfl,rfl⟩)
    ·cases F<;>cases Y<;>cases L<;>cases P
     all_goals first
      | (exfalso; have h1:=hK.out.one; have h2:=hK.out.two; have h3:=hK.out.any; simp at h1 h2 h3; done)
      | (go_wp2; go_meet; case rel=>exact ⟨rfl,rfl⟩)
   ·have d0:decide (0≤X)=true:=decide_eq_true hX0
    have hYt:=hK.out.inv hX0
    rcases hcs with rfl | rfl | rfl
    ·cases F<;>cases Y<;>cases L<;>cases P
     all_goals first
      | (exfalso; have h1:=hK.out.one; have h2:=hK.out.two; have h3:=hK.out.any; simp at h1 h2 h3; done)
      | (exfalso; cases hYt; done)
      | (go_wp2; go_meet; case rel=>exact ⟨rfl,rfl⟩)
    ·cases F<;>cases Y<;>cases L<;>cases P
     all_goals first
      | (exfalso; have h1:=hK.out.one; have h2:=hK.out.two; have h3:=hK.out.any; simp at h1 h2 h3; done)
      | (exfalso; cases hYt; done)
      | (go_wp2; go_meet; case rel=>exact ⟨rfl,rfl⟩)
    ·cases F<;>cases Y<;>cases L<;>cases P
     all_goals first
      | (exfalso; have h1:=hK.out.one; have h2:=hK.out.two; have h3:=hK.out.any; simp at h1 h2 h3; done)
      | (exfalso; cases hYt; done)
      | (go_wp2; go_meet; case rel=>exact ⟨rfl,rfl⟩)
  case rest =>
   obtain ⟨rfl,rfl⟩:=hcut
   have bZ:(Z != Z)=false:=by cases Z<;>rfl
   have hfz2:decide (0<fl.length)=Z:=by rw [← hfz]; exact decide_eq_decide.2 (by omega)
   clear u3_0 u3_1 u3_2 u3_3 u3_4 u3_5 u3_6 u3_7 u3_8
   cases S with
   | on s1 s2 =>
    obtain rfl:ontoN (SubR.on s1 s2)=N:=hN.out
    obtain rfl:orphL (SubR.on s1 s2)=ol:=hol.out
    obtain ⟨u3_0,u3_1,u3_2,u3_3,u3_4,u3_5,u3_6,u3_7,u3_8⟩:=id u3
    replace lA:∀ w',(Builtin.len_ #[22] 3 #[.slice oa on oc]).run Tryz.prog w'=.ok (.int .i64 0) w':=lA
    rw [show ontoN (SubR.on s1 s2)=1 from rfl] at u3_0
    have c0_3:=Below.step c0_2 d3
    have bE:=Below.step b0 c0_3
    go_wp2
    go_ret
    exact ⟨_,rfl,bE,rfl⟩
   | orphan wd =>
    obtain rfl:ontoN (SubR.orphan wd)=N:=hN.out
    obtain rfl:orphL (SubR.orphan wd)=ol:=hol.out
    obtain ⟨u3_0,u3_1,u3_2,u3_3,u3_4,u3_5,u3_6,u3_7,u3_8⟩:=id u3
    have hw:=sub_orphan hr.out hS.out
    replace lA:∀ w',(Builtin.len_ #[22] 3 #[.slice oa on oc]).run Tryz.prog w'=.ok (.int .i64 (wd.length:Nat)) w':=lA
    rw [show ontoN (SubR.orphan wd)=2 from rfl] at u3_0
    have hwp:1≤wd.length:=by
     cases hq:wd with
     | nil=>exact absurd hq hw.2.1
     | cons _ _=>simp
    have d0:decide ((0:Int)<(wd.length:Int))=true:=decide_eq_true (by omega)
    have d0':decide (0<wd.length)=true:=decide_eq_true (by omega)
    replace hw:=Hd hw
    by_cases h256:256<wd.length
    ·have d1:decide ((256:Int)<(wd.length:Int))=true:=decide_eq_true (by omega)
     have d1':decide (256<wd.length)=true:=decide_eq_true h256
     have c0_3:=Below.step c0_2 d3
     have bE:=Below.step b0 c0_3
     go_wp2
     go_ret
     exact ⟨_,rfl,bE,rfl⟩
    ·have d1:decide ((256:Int)<(wd.length:Int))=false:=decide_eq_false (by omega)
     have d1':decide (256<wd.length)=false:=decide_eq_false h256
     have c0_3:=Below.step c0_2 d3
     obtain ⟨⟨q_0,q_1,q_2⟩,-,-,-⟩:=(q.below c0_3)
     have hov:overP K R T wd 256=none:=by
      unfold overP
      rw [smallP_small hr.out hl]
      simp only
      rw [if_neg (by omega),hw.out.1.odd,if_pos rfl]
     have hno:decide (allBefore K R T wd (pw K (2*R))≠[])=false:=decide_eq_false (fun q=>by
      cases hq:allBefore K R T wd (pw K (2*R)) with
      | nil=>exact q hq
      | cons x l =>
       have hx:x∈preL K R T wd:=by unfold preL; rw [hq]; exact List.mem_cons_self ..
       obtain ⟨s1,s2,s3⟩:=(mem_preL hr.out.k1).1 hx
       exact hw.out.2.2.1 ⟨x,s1,s2,s3⟩)
     have has:=has_ok r K R va vn vc T oa on oc wd _ (hg.out.below c0_3) (h.out.below c0_3) hA.out.at hr.out hov hl (by omega)
     rw [hno] at has
     clear hov hno
     go_wp2_with fail
     refine (has).mono ?_
     rintro e w4 ⟨_,_,rfl,b4,rfl,rfl⟩
     clear has
     clear u3_0 u3_1 u3_2 u3_3 u3_4 u3_5 u3_6 u3_7 u3_8 q_0 q_1 q_2
     have c0_4:=Below.step c0_3 b4
     have bE:=Below.step b0 c0_4
     go_wp2
     go_ret
     exact ⟨_,rfl,bE,rfl⟩
   | big =>
    obtain rfl:ontoN (SubR.big)=N:=hN.out
    obtain rfl:orphL (SubR.big)=ol:=hol.out
    obtain ⟨u3_0,u3_1,u3_2,u3_3,u3_4,u3_5,u3_6,u3_7,u3_8⟩:=id u3
    replace lA:∀ w',(Builtin.len_ #[22] 3 #[.slice oa on oc]).run Tryz.prog w'=.ok (.int .i64 0) w':=lA
    rw [show ontoN (SubR.big)=3 from rfl] at u3_0
    have c0_3:=Below.step c0_2 d3
    have bE:=Below.step b0 c0_3
    go_wp2
    go_ret
    exact ⟨_,rfl,bE,rfl⟩
theorem labKnown_any (r:Nat→Addr) (k R:Int) (v:Value) (T:List Int) (w:World) (hg:Glob r w) (hG:GlobE w) (h:IntsAt w v T) :
 Calls Tryz.prog 9 #[.agg #[.int .i64 k,.int .i64 R,v]] w (Ret1 (fun x _=>x=.bool true) w):=by
 obtain ⟨va,vn,vc,rfl⟩:=h.shape
 cases hc:smallP k R T with
 | some t=>exact labKnown_bad r k R va vn vc T w hg hG h t hc
 | none =>
  obtain ⟨K,Q,rfl,rfl,hr,hl⟩:=smallP_of hc
  exact labKnown_ok r K Q va vn vc T w hg hG h hr hl
end Go.Proofs.YtncpnaoabkjegaaGreatDoor
namespace Go.Proofs.YtncpnaoabkjegaaGreatDoor
open Go.ChangeShapes Go.WideShapes Go.ChangeAt Go.RowKit Go.Joins
set_option maxRecDepth 100000
theorem own:ownKnob Tryz.prog.godebug=none:=by kernel_rfl
theorem laidOut:laidOutB Tryz.prog=true:=by kernel_rfl
theorem cellsInt:Tryz.prog.cellsOf 3=1:=by kernel_rfl
theorem uInt:Tryz.prog.underlying 3=some (.int .i64):=by kernel_rfl
theorem bytesInt:Tryz.prog.bytesOf 3=8:=by kernel_rfl
theorem i64_of_wf {n:Int} (h:(Lit.int .i64 n).wf=true):I64 n:=by
 have:=bounds_i64 h
 unfold I64
 omega
theorem open_intsV {H:Type} {enc:TypeId×Value→H} {W:World} {held:Bool} {fuel:Nat} {v:Value} {y:DataW H×List MemPlace}
 (h:DataW.trod enc Tryz.prog W 0 (fun _=>true) held fuel 22 [v]=some y) (hw:∀ n∈y.1.weights Tryz.prog 22,n≤reachBytes) :
 ∃ xs,IntsAt W v xs∧xs.length≤17592186043904∧∀ x∈xs,I64 x:=by
 rcases open_ints uInts uInt cellsInt h with ⟨hcs,_⟩ | ⟨a,len,cap,zs,hcs,_,hl,hm,hz,hx,hcell,hwz⟩
 ·simp at hcs
  subst hcs
  exact ⟨[],(OwnI.nil 0 W).at,by simp,by simp⟩
 ·simp at hcs
  subst hcs
  simp only [if_true] at hz
  have hzl:(zs.take len).length=len:=by simp; omega
  refine ⟨zs.take len,⟨some a,cap,by rw [hzl],by rw [hzl]; exact hl,hm,(fun e=>by cases e),fun i hi=>?_⟩,?_,fun x hx=>i64_of_wf (hwz x (List.mem_of_mem_take hx))⟩
  ·have hi':i<zs.length:=by rw [hzl] at hi; omega
   show W.cell? (a.add i)=_
   rw [hcell i hi']
   simp [List.getD,hi']
  ·rw [hx] at hw
   have:=hw ((lits (H:=H) .i64 (zs.take len)).length*8+(lits (H:=H) .i64 (zs.drop len)).length*8) (by
    simp only [DataW.weights,uInts,bytesInt,List.mem_cons]
    left; omega)
   simp only [lits,List.length_map,reachBytes] at this
   omega
theorem weights_each3 {H:Type} {t0 t1 t2:TypeId} {y0 y1 y2:DataW H} {n:Nat} (h:n∈y2.weights Tryz.prog t2):n∈DataW.weightsEach Tryz.prog [t0,t1,t2] [y0,y1,y2]:=by
 simp only [DataW.weightsEach,List.mem_append]
 exact .inr (.inr (.inl h))
theorem open_ruleV {H:Type} {enc:TypeId×Value→H} {W:World} {held:Bool} {v:Value} {d:DataW H} {p:List MemPlace} {b0:Nat}
 (hv:Value.okWide Tryz.prog W .any b0 24 v) (h:DataW.Trod enc Tryz.prog W 0 (fun _=>true) held 24 v d p) (hw:∀ n∈d.weights Tryz.prog 24,n≤reachBytes) :
 ∃ (k R:Int) (u:Value) (xs:List Int),v=.agg #[.int .i64 k,.int .i64 R,u]∧IntsAt W u xs∧xs.length≤17592186043904∧(∀ x∈xs,I64 x)∧I64 k∧I64 R:=by
 obtain ⟨v0,v1,v2,y0,y1,y2,n,rfl,rfl,rfl,h0,h1,h2⟩:=open_agg3 Tryz.underlying24 (by kernel_rfl) (by kernel_rfl) hv h
 obtain ⟨a,e0,_,wa⟩:=DataW.trod_int uInt h0
 obtain ⟨b,e1,_,wb⟩:=DataW.trod_int uInt h1
 simp at e0 e1
 subst e0 e1
 obtain ⟨xs,hx,hl,hb⟩:=open_intsV h2 fun n hn=>hw n (by
  simp only [DataW.weights,Tryz.underlying24]
  exact weights_each3 (t0:=3) (t1:=3) (t2:=22) hn)
 exact ⟨a,b,v2,xs,rfl,hx,hl,hb,i64_of_wf wa,i64_of_wf wb⟩
theorem star : "*" ++ "errors.errorString" = "*errors.errorString" := by decide
theorem rowES (u : TypeId) (h : Tryz.prog.typeName? 3 u = some "*errors.errorString") : u = 322 :=
 typeName_ptr_named (nm := "errors.errorString") (by rw [star]; kernel_rfl) (by kernel_rfl) (by decide) u (by rw [star]; exact h)
theorem pES:Tryz.prog.underlying 322=some (.pointer 340):=by kernel_rfl
theorem cES:Tryz.prog.cellsOf 340=1:=by kernel_rfl
theorem cStr:Tryz.prog.cellsOf 9=1:=by kernel_rfl
def laid12 : List (String × DataW Unit) := [("eden/api.BadRule", Rows.laid_eden_api_BadRule), ("eden/api.BadWord", Rows.laid_eden_api_BadWord), ("eden/api.BadArg", Rows.laid_eden_api_BadArg), ("eden/api.TooBig", Rows.laid_eden_api_TooBig), ("eden/api.NoBudget", Rows.laid_eden_api_NoBudget), ("eden/api.BadText", Rows.laid_eden_api_BadText), ("eden/api.BadPatch", Rows.laid_eden_api_BadPatch), ("eden/api.BadCert", Rows.laid_eden_api_BadCert), ("eden/api.NoInverse", Rows.laid_eden_api_NoInverse), ("eden/api.BadLine", Rows.laid_eden_api_BadLine), ("eden/api.BadState", Rows.laid_eden_api_BadState), ("eden/api.Unknown", Rows.laid_eden_api_Unknown)]
theorem sentinel {n:String} {text:List UInt8} {r:List (String×DataW Unit)} {W:World} {g:Nat}
 (h : laidMet Tryz.prog ((n, .iface "*errors.errorString" (.ptr (.agg [.lit (.string text)]))) :: r) W)
 (hg:Tryz.prog.globalNamed n=some g) (ht:(Tryz.prog.globals[g]?).map (·.type)=some 27) :
 (∃ a:Addr,W.cell? ⟨g,0,none⟩=some (.iface 322 (.pointer (some a)))∧∃ s,W.cell? a=some (.string s)∧s.data.toList=text∧∃ c t,W.heap[a.block]?=some (.cells c t (0,0)))∧laidMet Tryz.prog r W:=by
 refine ⟨?_,h.tail⟩
 obtain ⟨ps,⟨g0,t0,cs0,f0,p0,q0,hg0,ht0,hv0,hd0,_,e0⟩,_,hrows⟩:=h
 obtain rfl:=Option.some.inj (hg.symm.trans hg0)
 obtain rfl:=Option.some.inj (ht.symm.trans ht0)
 subst e0
 obtain ⟨l0⟩:=cs0
 have ok0:∀ u v,l0=[.iface u v]→Value.okWide Tryz.prog W .any 0 u v:=fun u v e=>by
  subst e
  exact (hrows g 0 (by simp [MemPlace.row])).2 u v (by simpa using World.var?_cell hg hv0 0)
 obtain ⟨a0,s0,rfl,hc0,hs0,hz0,rfl⟩:=errorString_of_trod Tryz.underlying27 rowES pES Tryz.underlying340 rfl rfl Tryz.underlying9 cES cStr hd0 ok0
 exact ⟨a0,by simpa using World.var?_cell hg hv0 0,s0,hc0,hs0,(hrows a0.block a0.off (by simp [MemPlace.row])).1⟩
def txt:Nat→List UInt8
 | 1=>[98,97,100,32,114,117,108,101]
 | 2=>[98,97,100,32,119,111,114,100]
 | 3=>[98,97,100,32,97,114,103,117,109,101,110,116]
 | 4=>[116,111,111,32,98,105,103]
 | 5=>[110,111,32,98,117,100,103,101,116]
 | 6=>[98,97,100,32,116,101,120,116]
 | 7=>[98,97,100,32,112,97,116,99,104]
 | 8=>[98,97,100,32,99,101,114,116,105,102,105,99,97,116,101]
 | 9=>[110,111,32,105,110,118,101,114,115,101]
 | 10=>[98,97,100,32,108,105,110,101]
 | 11=>[98,97,100,32,115,116,97,116,101]
 | 99=>[117,110,107,110,111,119,110]
 | _=>[]
theorem txt_apart:∀ m n:Fin 12,1≤m.val→1≤n.val→txt m.val=txt n.val→m=n:=by decide
theorem glob_of_laidR {W:World} {l:List (String×DataW Unit)} (h:laidMet Tryz.prog (laid12++l) W):∃ r,Glob r W:=by
 obtain ⟨⟨a1,c1,s1,e1,t1,f1⟩,h⟩:=sentinel (text:=txt 1) h (g:=3) (by kernel_rfl) (by kernel_rfl)
 obtain ⟨⟨a2,c2,s2,e2,t2,f2⟩,h⟩:=sentinel (text:=txt 2) h (g:=4) (by kernel_rfl) (by kernel_rfl)
 obtain ⟨⟨a3,c3,s3,e3,t3,f3⟩,h⟩:=sentinel (text:=txt 3) h (g:=5) (by kernel_rfl) (by kernel_rfl)
 obtain ⟨⟨a4,c4,s4,e4,t4,f4⟩,h⟩:=sentinel (text:=txt 4) h (g:=0) (by kernel_rfl) (by kernel_rfl)
 obtain ⟨⟨a5,c5,s5,e5,t5,f5⟩,h⟩:=sentinel (text:=txt 5) h (g:=6) (by kernel_rfl) (by kernel_rfl)
 obtain ⟨⟨a6,c6,s6,e6,t6,f6⟩,h⟩:=sentinel (text:=txt 6) h (g:=7) (by kernel_rfl) (by kernel_rfl)
 obtain ⟨⟨a7,c7,s7,e7,t7,f7⟩,h⟩:=sentinel (text:=txt 7) h (g:=8) (by kernel_rfl) (by kernel_rfl)
 obtain ⟨⟨a8,c8,s8,e8,t8,f8⟩,h⟩:=sentinel (text:=txt 8) h (g:=9) (by kernel_rfl) (by kernel_rfl)
 obtain ⟨⟨a9,c9,s9,e9,t9,f9⟩,h⟩:=sentinel (text:=txt 9) h (g:=1) (by kernel_rfl) (by kernel_rfl)
 obtain ⟨⟨a10,c10,s10,e10,t10,f10⟩,h⟩:=sentinel (text:=txt 10) h (g:=10) (by kernel_rfl) (by kernel_rfl)
 obtain ⟨⟨a11,c11,s11,e11,t11,f11⟩,h⟩:=sentinel (text:=txt 11) h (g:=11) (by kernel_rfl) (by kernel_rfl)
 obtain ⟨⟨a99,c99,s99,e99,t99,f99⟩,h⟩:=sentinel (text:=txt 99) h (g:=12) (by kernel_rfl) (by kernel_rfl)
 clear h
 have key:∀ n:Nat,(1≤n∧n≤11)∨n=99→∃ s,W.cell? ((fun n:Nat=>match n with | 1=>a1 | 2=>a2 | 3=>a3 | 4=>a4 | 5=>a5 | 6=>a6 | 7=>a7 | 8=>a8 | 9=>a9 | 10=>a10 | 11=>a11 | _=>a99) n)=some (.string s)∧s.data.toList=txt n∧∃ c t,W.heap[((fun n:Nat=>match n with | 1=>a1 | 2=>a2 | 3=>a3 | 4=>a4 | 5=>a5 | 6=>a6 | 7=>a7 | 8=>a8 | 9=>a9 | 10=>a10 | 11=>a11 | _=>a99) n).block]?=some (.cells c t (0,0)):=by
  intro n hn
  have:n=1∨n=2∨n=3∨n=4∨n=5∨n=6∨n=7∨n=8∨n=9∨n=10∨n=11∨n=99:=by omega
  rcases this with rfl | rfl | rfl | rfl | rfl | rfl | rfl | rfl | rfl | rfl | rfl | rfl
  ·exact ⟨s1,e1,t1,f1⟩
  ·exact ⟨s2,e2,t2,f2⟩
  ·exact ⟨s3,e3,t3,f3⟩
  ·exact ⟨s4,e4,t4,f4⟩
  ·exact ⟨s5,e5,t5,f5⟩
  ·exact ⟨s6,e6,t6,f6⟩
  ·exact ⟨s7,e7,t7,f7⟩
  ·exact ⟨s8,e8,t8,f8⟩
  ·exact ⟨s9,e9,t9,f9⟩
  ·exact ⟨s10,e10,t10,f10⟩
  ·exact ⟨s11,e11,t11,f11⟩
  ·exact ⟨s99,e99,t99,f99⟩
 refine ⟨(fun n:Nat=>match n with | 1=>a1 | 2=>a2 | 3=>a3 | 4=>a4 | 5=>a5 | 6=>a6 | 7=>a7 | 8=>a8 | 9=>a9 | 10=>a10 | 11=>a11 | _=>a99),c1,c2,c3,c4,c5,c6,c7,c8,c9,c10,c11,c99,(fun n hn=>?_),fun m n hm1 hm2 hn1 hn2 he=>?_,fun n hn=>?_⟩
 ·obtain ⟨s,hs,_⟩:=key n hn
  exact ⟨s,hs⟩
 ·obtain ⟨s,hs,ts,_⟩:=key m.toNat (by omega)
  obtain ⟨s',hs',ts',_⟩:=key n.toNat (by omega)
  have hss:s=s':=by
   have:=hs.symm.trans ((congrArg W.cell? he).trans hs')
   simpa using this
  subst hss
  have:=txt_apart ⟨m.toNat,by omega⟩ ⟨n.toNat,by omega⟩ (by simp; omega) (by simp; omega) (ts.symm.trans ts')
  have:=congrArg Fin.val this
  simp at this
  omega
 ·obtain ⟨_,_,_,hf⟩:=key n hn
  exact hf
theorem glob_of_laid {W:World} (h:laidMet Tryz.prog laid12 W):∃ r,Glob r W:=glob_of_laidR (l:=[]) h
end Go.Proofs.YtncpnaoabkjegaaGreatDoor
namespace Go.Proofs.YtncpnaoabkjegaaGreatDoor
open Go.RowKit
set_option maxRecDepth 100000
def laid13 : List (String × DataW Unit) := ("errors.errorType", Rows.laid_errors_errorType) :: laid12
theorem rtypeNo : (Tryz.prog.cutTypes.find? (·.1 == "internal/reflectlite.rtype")).map (·.2) = some 239 := by kernel_rfl
theorem errorTypeNo : Tryz.prog.globalNamed "errors.errorType" = some 2 := by kernel_rfl
theorem typesNo:Tryz.prog.types.size=452-100:=by kernel_rfl
theorem oneError:((List.range (452-100)).filter fun t=>Tryz.prog.rowNamed t [101,114,114,111,114])=[27]:=by kernel_rfl
theorem handleErr:typeHandle Tryz.prog 27=.pointer (some ⟨17,27,none⟩):=by kernel_rfl
theorem glob_of_laidH {W:World} (h:laidMetH Tryz.prog laid13 W):∃ r,Glob r W∧GlobE W:=by
 have h' : laidMet Tryz.prog laid12 W ∧ handlesMet Tryz.prog [("errors.errorType", Rows.laid_errors_errorType)] W := h
 obtain ⟨r,hg⟩:=glob_of_laid h'.1
 refine ⟨r,hg,?_⟩
 obtain ⟨name,u,ty,e1,e2,e3,e4,e5⟩:=h'.2 _ (List.mem_cons_self ..)
 have en:name=[101,114,114,111,114]:=(Option.some.inj e1).symm
 subst en
 obtain rfl:=Option.some.inj (rtypeNo.symm.trans e2)
 have hm:ty∈(List.range (452-100)).filter fun t=>Tryz.prog.rowNamed t [101,114,114,111,114]:=List.mem_filter.2 ⟨List.mem_range.2 (by rw [← typesNo]; exact e3),e4⟩
 rw [oneError] at hm
 obtain rfl:=List.mem_singleton.1 hm
 rw [handleErr] at e5
 simpa [GlobE] using World.var?_cell errorTypeNo e5 0
end Go.Proofs.YtncpnaoabkjegaaGreatDoor
namespace Go.Proofs.YtncpnaoabkjegaaGreatDoor
open Go.ChangeShapes Go.WideShapes Go.ChangeAt Go.RowKit Go.Joins
namespace LabKnownP
set_option maxRecDepth 100000 in
theorem door_met (os:Os) (args:Array Value):laidMetH Tryz.prog Rows.labKnownRow.laid ((World.doorLaid Tryz.prog 400 os).forCall (fun _ _=>0) ⟨#[],args,[]⟩).memory :=
 laidMetH_of_parts3 (fuel:=8) (laidMet_of_run' 8 (by kernel_rfl) (by kernel_rfl)) (by kernel_rfl) (by kernel_rfl)
set_option maxRecDepth 100000 in
theorem lifted (os:Os) (started:os.Started) (H:Type) (enc:TypeId×Value→H) :
 ReturnsInHanded {} Tryz.checked os 9 .any (fun w args=>(Rows.labKnownSpec.pre enc Tryz.prog Tryz.f9 [] false w args∧laidMetH Tryz.prog Rows.labKnownRow.laid w)∧sizedMet enc Tryz.prog Tryz.f9 (OpenSpec.ofChange Rows.labKnownSpec) false w args)
  (Rows.labKnownSpec.post enc Tryz.prog Tryz.f9 false true false false):=by
 refine returnsInHanded_of_change_and (C:=Tryz.checked) (X:=fun w _=>laidMetH Tryz.prog Rows.labKnownRow.laid w) (fun _ _ _ hh h=>h.of_heap hh) own started (by kernel_rfl) Tryz.func9
  (ChangeSpec.witness_shaped (enc:=enc) (C:=Tryz.checked) (os:=os) (X:=fun w _=>laidMetH Tryz.prog Rows.labKnownRow.laid w) false (World.doorLaid Tryz.prog 400 os) #[.agg #[.int .i64 0,.int .i64 0,.slice none 0 0]] 8 rfl (World.shaped_of_RefB (by kernel_rfl) (by kernel_rfl)) (by kernel_rfl) (by kernel_rfl) (by kernel_rfl) (door_met os _)) ?_
 intro W base args ds gs before hval0 hW _ hsz hL _
 have hval:∀ (j:Nat) t v,Tryz.f9.params[j]?=some t→args[j]?=some v→Value.okWide Tryz.prog W .any base t v:=hval0
 have hW':=hW
 obtain ⟨p,q,hA0,hV,rfl,hfz,hnd⟩:=hW
 have hA:DataW.TrodAll enc Tryz.prog W 0 (fun _=>true) true Tryz.f9.params.toList args.toList ds p:=hA0
 rw [Tryz.params9] at hA hval hsz
 obtain ⟨v0,vs0,d0,ds0,p0,q0,hargs,rfl,rfl,g0,t0⟩:=trodAll_cons hA
 obtain ⟨rfl,rfl,rfl⟩:=trodAll_nil t0
 obtain rfl:args=#[v0]:=by cases args; simp_all
 obtain ⟨rfl,rfl⟩:=trodVars_none hV
 have kk0:=g0
 have lt0:∀ x∈p0,x.block<W.heap.size:=by obtain ⟨m,hm⟩:=kk0; exact DataW.trod_lt m _ _ _ hm
 obtain ⟨kr0,rr0,u0,x0,rfl,h0,l0,b0,bk0,br0⟩:=open_ruleV (hval 0 24 v0 rfl rfl) g0 (fun n hn=>by
  have:=List.all_eq_true.1 hsz n (DataW.weights_mem_each (j:=0) (t:=24) rfl rfl n hn)
  simpa using this)
 obtain ⟨r,hg,hG⟩:=glob_of_laidH (W:=W) (by
  exact hL)
 clear hA0 hval0
 refine (labKnown_any r _ _ _ _ _ hg hG h0).mono fun e W' ⟨x,he,bel,hxx⟩=>?_
 subst he; subst hxx
 exact ⟨_,rfl,_,_,_,[],_,[],hW',trodAll_mk1 (shut_bool Tryz.underlying4 _),(trodAll_cons_mk (Below.trod laidOut (by kernel_rfl) (of_decide_eq_true (by kernel_rfl)) kk0 bel lt0) trodAll_mk0),rfl,bel.frame _,fun h=>by cases h⟩
theorem and_t {a b:Bool} (h:a=true) (k:b=true):(a&&b)=true:=by rw [h,k]; rfl
theorem jf_wf:Rows.labKnownRow.wf (OpenSpec.ofChange Rows.labKnownSpec)=true:=by kernel_rfl
theorem jf_lo:laidOutB Tryz.prog=true:=by kernel_rfl
theorem jf_mr:mapsRowed Tryz.prog=true:=by kernel_rfl
theorem jf_nt:namedTie Tryz.prog Rows.labKnownRow.named Rows.labKnownSpec.vars=true:=by kernel_rfl
theorem jf_ip:(Rows.labKnownRow.inPlace==Tryz.prog.inPlace 9)=true:=by kernel_rfl
theorem jf_uf:(Rows.labKnownRow.unfollowed==Tryz.prog.unfollowed 9)=true:=by kernel_rfl
theorem jf_rc:(Rows.labKnownRow.recurses==Tryz.prog.recurses 9)=true:=by kernel_rfl
theorem jf_nm:(Rows.labKnownRow.named==Tryz.prog.varsNamed 9)=true:=by kernel_rfl
theorem jf_pk:(Rows.labKnownRow.plainKeys==Tryz.prog.plainKeys)=true:=by kernel_rfl
theorem jf_sh:Tryz.prog.stopsHeard=true:=by kernel_rfl
theorem jf_me:Tryz.prog.mayEnter=true:=by kernel_rfl
theorem jf_lf:(Rows.labKnownRow.lifted==Tryz.prog.liftsFinal)=true:=by kernel_rfl
theorem jf_mk:(Tryz.prog.make==some Rows.labKnownRow.make)=true:=by kernel_rfl
theorem joined:joinedFacts Tryz.prog 9 Tryz.f9 Rows.labKnownSpec Rows.labKnownRow=true:=and_t (and_t (and_t (and_t (and_t (and_t (and_t (and_t (and_t (and_t (and_t (and_t (and_t (and_t (and_t (and_t (and_t (and_t (and_t (and_t (and_t (and_t (and_t (and_t (and_t (and_t (and_t (and_t (and_t (and_t (and_t jf_wf jf_lo) jf_mr) (by kernel_rfl)) jf_nt) (by kernel_rfl)) (by kernel_rfl)) (by kernel_rfl)) (by kernel_rfl)) jf_ip) jf_uf) jf_rc) jf_nm) (by kernel_rfl)) (by kernel_rfl)) (by kernel_rfl)) (by kernel_rfl)) (by kernel_rfl)) (by kernel_rfl)) (by kernel_rfl)) (by kernel_rfl)) (by kernel_rfl)) jf_pk) (by kernel_rfl)) jf_sh) jf_me) jf_lf) jf_mk) (by kernel_rfl)) (by kernel_rfl)) (by kernel_rfl)) (by kernel_rfl)
theorem fnamed:Tryz.prog.funcNamed Rows.labKnownRow.func=some 9:=by kernel_rfl
theorem inst:Tryz.f9.isInstance Tryz.prog Rows.labKnownRow.origin Rows.labKnownRow.targs:=of_decide_eq_true (by kernel_rfl)
theorem wrapd:Tryz.f9.isWrapper Tryz.prog Rows.labKnownRow.wrapper Rows.labKnownRow.mainSum:=by unfold Func.isWrapper; first | (rw [if_pos (by decide +kernel)]; kernel_rfl) | (rw [if_neg (by decide +kernel)]; exact ⟨rfl,rfl⟩)
theorem over:Rows.LabKnownSaid :=
 OpenClaim.holds_of_wide 9 Tryz.f9 rfl rfl rfl rfl rfl rfl rfl ⟨rfl,rfl,rfl,rfl,rfl⟩ rfl rfl rfl rfl rfl fnamed Tryz.func9 joined
  inst wrapd
  (fun os started H enc _=>lifted os started H enc)
theorem cw:Rows.labKnownRow.wfByText (OpenSpec.ofChange Rows.labKnownSpec)=true:=by kernel_rfl
theorem cm:Tryz.prog.mainIs=some (Rows.labKnownCard.stood.harness.1,Rows.labKnownCard.stood.harness.2.toList):=by kernel_rfl
theorem cl:Rows.labKnownCard.stood.looks=Tryz.prog.looks []:=by kernel_rfl
theorem cg:false=Rows.labKnownRow.goesBy Tryz.prog:=by kernel_rfl
theorem cs:([24].all fun u=>!Tryz.prog.wantsStandIn u)=true:=by kernel_rfl
theorem card_holds:Rows.LabKnownCardSaid :=
 Claim7.holds_tied_plain_at .later [] [.handle,.sentinel,.sentinel,.sentinel,.sentinel,.sentinel,.sentinel,.sentinel,.sentinel,.sentinel,.sentinel,.sentinel,.sentinel] true _ _
  over (fun _ h=>by cases h) cw (fun _ h=>by cases h) labKnown_row_tie rfl ⟨rfl,rfl⟩ cm rfl
  (fun f fn hf hfn=>by
    obtain rfl:f=9:=Option.some.inj (fnamed.symm.trans hf) |>.symm
    obtain rfl:fn=Tryz.f9:=(Option.some.inj (Tryz.func9.symm.trans hfn)).symm
    exact ⟨cl,fun j t ht=>by
     rw [Tryz.params9] at ht
     have hm:t∈[24]:=by simpa using Array.mem_of_getElem? ht
     exact (show Tryz.prog.wantsStandIn t=false by simpa using List.all_eq_true.1 cs t hm)⟩)
  cg
end LabKnownP
#print axioms LabKnownP.card_holds
end Go.Proofs.YtncpnaoabkjegaaGreatDoor
