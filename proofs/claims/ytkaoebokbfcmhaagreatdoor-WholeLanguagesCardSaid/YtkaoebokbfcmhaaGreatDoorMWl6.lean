/-
  Texts that the proof leans on.
-/
import Derived.Test.YtkaoebokbfcmhaaGreatDoorMWl5
import Derived.Deep.DeepCutAuto
import Derived.Ground.NamesProg
import Derived.Shelf.Slices.Cells
import Derived.Shelf.Bits.Mul64
import Derived.Deep.LoopGhost
import Derived.Ground.SlgfProg
import Derived.Shelf.SlGeneric
import Derived.Shelf.SlicesE.DeleteFunc
import Derived.Lib.SliceRun
import Derived.Maps.OwnSet
import Derived.WalkArith
namespace Go.Proofs.YtkaoebokbfcmhaaGreatDoor
open Go.RowKit
set_option maxRecDepth 100000
def rowsOf (n:Nat) (F:Nat→List Int):List (List Int):=(List.range n).map F
theorem rowsOf_len (n:Nat) (F:Nat→List Int):(rowsOf n F).length=n:=by simp [rowsOf]
theorem rowsOf_get (n:Nat) (F:Nat→List Int) (u:Nat) (hu:u<n):(rowsOf n F).getD u []=F u:=by simp [rowsOf,List.getD,hu]
theorem vAt_set_same {l:List Value} {k:Nat} {g:Value} (h:k<l.length):vAt (l.set k g) k=g:=by simp [vAt,List.getD,h]
theorem vAt_set_ne {l:List Value} {k t:Nat} {g:Value} (h:t≠k):vAt (l.set k g) t=vAt l t:=by
 simp [vAt,List.getD,Ne.symm h]
structure WN (f:Names) (ov:Value) (vals:List Value) (n:Nat) (F:Nat→List Int):Prop where
 outer:f (1,0)=some (rowV 22 ov vals)
 len:vals.length=n
 rows:∀ u,u<n→f (2,u)=some (rowI (vAt vals u) (F u))
section
variable {B:Nat} {w:World} {f:Names} {ov:Value} {vals:List Value} {n:Nat} {F:Nat→List Int}
theorem WN.lists (h:WN f ov vals n F) (hr:Rows B w f):ListsAt w ov (rowsOf n F) :=
 ⟨vals,(hr.ownV h.outer).at,by rw [h.len,rowsOf_len],fun i hi=>by
   rw [rowsOf_len] at hi
   rw [rowsOf_get n F i hi]
   exact (hr.ownI (h.rows i hi)).at⟩
theorem WN.put (h:WN f ov vals n F) {w1:World} {u:Nat} (hu:u<n) {v':Value} {xs:List Int} (hr1:Rows B w1 (upd f (2,u) (some (rowI v' xs)))) :
 w1.cell? (valAt ov u)=some (vAt vals u)∧w1.frozen? (valAt ov u)=false∧B≤(valAt ov u).block ∧
 ∃ f',Rows B (w1.setCell (valAt ov u) v') f'∧WN f' ov (vals.set u v') n (updN F u xs)∧∀ i,i≠(1,0)→i≠(2,u)→f' i=f i:=by
 have ho:upd f (2,u) (some (rowI v' xs)) (1,0)=some (rowV 22 ov vals):=by rw [upd_ne _ _ (by simp)]; exact h.outer
 have hl:u<vals.length:=by rw [h.len]; exact hu
 have hO:=hr1.ownV ho
 refine ⟨hO.at.cellV u hl,hO.frz u hl,(hO.blkB u hl).2,_,hr1.setV ho u hl v',⟨upd_same _ _ _,by simpa using h.len,fun t ht=>?_⟩,fun i h1 h2=>by rw [upd_ne _ _ h1,upd_ne _ _ h2]⟩
 rw [upd_ne _ _ (by simp)]
 by_cases e:t=u
 ·subst e
  rw [upd_same,vAt_set_same hl,updN_same]
 ·rw [upd_ne _ _ (by simpa using e),vAt_set_ne e,updN_other _ _ _ e]
  exact h.rows t ht
theorem WN.new (_h:WN f ov vals n F) (hr:Rows B w f) {w1:World} (u:Nat) {v':Value} {xs:List Int} (hb:Below w.heap.size w w1) (hB:B≤w.heap.size) (ho:OwnI w.heap.size w1 v' xs):Rows B w1 (upd f (2,u) (some (rowI v' xs))) :=
 hr.add hb (ho.mono hB) (fun k hk=>(ho.lt k hk).1)
theorem WN.app (h:WN f ov vals n F) (hr:Rows B w f) {w1:World} {u:Nat} (hu:u<n) {v':Value} (x:Int) (ho:OwnI B w1 v' (F u++[x]))
 (hal:(roomOf v'=roomOf (vAt vals u)∧w.grownBy w1 (vAt vals u).ownBlock)∨(∃ k,v'.ownBlock=some k∧w.heap.size≤k∧w.grownBy w1 none)):Rows B w1 (upd f (2,u) (some (rowI v' (F u++[x])))):=by
 have hO:=hr.ownI (h.rows u hu)
 refine hr.grown (r':=rowI v' (F u++[x])) (h.rows u hu) (grown_via (hal.imp (·.2) (fun ⟨_,_,_,q⟩=>q))) ho ?_
 rcases hal with ⟨q,_⟩ | ⟨k,h1,h2,_⟩
 ·obtain ⟨a1,n1,c1,e1⟩:=hO.at.shape
  obtain ⟨a2,n2,c2,e2⟩:=ho.at.shape
  exact .inl (ownBlock_of_room e1 e2 q)
 ·exact .inr ⟨k,h1,h2⟩
theorem WN.elem (h:WN f ov vals n F) (hr:Rows B w f) (u:Nat) (hu:u<n) (i:Nat) (hi:i<(F u).length) (x:Int) :
 ∃ f',Rows B (w.setCell (valAt (vAt vals u) i) (.int .i64 x)) f'∧WN f' ov vals n (updN F u ((F u).set i x)):=by
 refine ⟨_,hr.setI (h.rows u hu) i hi x,⟨by rw [upd_ne _ _ (by simp)]; exact h.outer,h.len,fun t ht=>?_⟩⟩
 by_cases e:t=u
 ·subst e; rw [upd_same,updN_same]
 ·rw [upd_ne _ _ (by simpa using e),updN_other _ _ _ e]; exact h.rows t ht
end
theorem run_makeW {T E:TypeId} {z:Value} {b:Nat} (oc:OneCell T E z b) (C:Int) (n:Nat) (w:World) (hC:C=n) (hn:n≤4398046511104) :
 ∃ v w',(Instr.makeSlice T (.int .i64 C) (.int .i64 C)).run Tryz.prog w=.ok v w'∧OwnV E w.heap.size w' v (List.replicate n z)∧Below w.heap.size w w':=by
 subst hC
 obtain ⟨i,hi,hz0,hz1,hz2⟩:=info_parts oc.hi
 have hb:=oc.hb
 obtain ⟨w',hrun,r1,r2⟩:=run_make_full (P:=Tryz.prog) w w.heap.size T E i z 1 oc.ht hi hz0 hz1 .i64 .i64 n (by
  rw [hz2]
  calc b*n≤32*4398046511104:=Nat.mul_le_mul hb (by omega)
   _≤_:=by decide) (by unfold maxLen; omega) (Nat.le_refl _)
 refine ⟨_,w',hrun,?_,(Below.refl _ _).grown r2 (Nat.le_refl _) (by intro k hk; cases hk)⟩
 rw [oc.hz,toList_madeCells_one] at r1
 simpa [OwnV] using r1
def nils (n:Nat):Names:=fun i=>if i.1=2∧i.2<n then some (rowI (.slice none 0 0) []) else none
theorem rows_nils (B:Nat) (w:World) (n:Nat):Rows B w (nils n):=by
 refine ⟨fun i r hi=>?_,fun i j r s hi _ _=>?_⟩
 ·unfold nils at hi
  split at hi
  ·injection hi with hi; subst hi; exact OwnI.nil B w
  ·cases hi
 ·left
  unfold nils at hi
  split at hi
  ·injection hi with hi; subst hi; rfl
  ·cases hi
theorem WN.made {B:Nat} {w w1:World} {ov:Value} (n:Nat) (hb:Below w.heap.size w w1) (hB:B≤w.heap.size) (ho:OwnV 22 w.heap.size w1 ov (List.replicate n (.slice none 0 0))) :
 ∃ f,Rows B w1 f∧WN f ov (List.replicate n (.slice none 0 0)) n (fun _=>[]):=by
 refine ⟨_,(rows_nils B w n).add (i:=(1,0)) (r':=rowV 22 ov (List.replicate n (.slice none 0 0))) hb (ho.mono hB) (fun k hk=>(ho.lt k hk).1),⟨upd_same _ _ _,by simp,fun u hu=>?_⟩⟩
 rw [upd_ne _ _ (by simp)]
 show nils n (2,u)=_
 unfold nils
 rw [if_pos ⟨rfl,hu⟩]
 simp [vAt,List.getD,hu]
def TwoInts (T E:TypeId):Prop:=Tryz.prog.underlying T=some (.slice E)∧∃ i,Tryz.prog.info? E=some i∧i.zero=some (.agg #[.int .i64 0,.int .i64 0])∧i.size=2∧i.bytes=16
theorem twoInts_mk {T E:TypeId} (h1:Tryz.prog.underlying T=some (.slice E)) (h2:(Tryz.prog.info? E).map (fun i=>(i.zero,i.size,i.bytes))=some (some (.agg #[.int .i64 0,.int .i64 0]),2,16)):TwoInts T E:=by
 refine ⟨h1,?_⟩
 cases h:Tryz.prog.info? E with
 | none=>rw [h] at h2; cases h2
 | some i=>rw [h] at h2; simp at h2; exact ⟨i,rfl,h2.1,h2.2.1,h2.2.2⟩
theorem run_app2 {T E:TypeId} (tc:TwoInts T E) (w:World) (B:Nat) (ty:TypeId) (v:Value) (m:Nat) (xs:List Value) (hown:w.ownsRow B E 2 v m xs)
 (b:Nat) (y0 y1:Int) (hys:∀ (j:Nat) (u:Value),([Value.int .i64 y0,.int .i64 y1]:List Value)[j]?=some u→w.cell? ((⟨b,0,none⟩:Addr).add j)=some u) (hlen:m<1000000) (hB:B≤w.heap.size) :
 ∃ g n' c' w',(Builtin.append_ #[T,T] ty #[v,.slice (some ⟨b,0,none⟩) 1 1]).run Tryz.prog w=.ok (.slice (some ⟨g,0,none⟩) n' c') w'∧n'=m+1∧w'.ownsRow B E 2 (.slice (some ⟨g,0,none⟩) (m+1) c') (m+1) (xs++[.int .i64 y0,.int .i64 y1]) ∧
  ((v.ownBlock=some g∧w.grownBy w' v.ownBlock)∨(g=w.heap.size∧w.grownBy w' none)):=by
 obtain ⟨ht,i,hi,hz0,hz1,hz2⟩:=tc
 have hzc:(Value.agg #[.int .i64 0,.int .i64 0]).cells=#[.int .i64 0,.int .i64 0]:=by rfl
 have hxl:=hown.1
 have big:∀ (old:Nat),old<m+1 →
  (w.drew.alloc (.cells (xs.toArray++[Value.int .i64 y0,.int .i64 y1].toArray++Builtin.zeroCells (Value.agg #[.int .i64 0,.int .i64 0]).cells (grownCap w (m+1) old E-(m+1))) E)).ownsRow B E 2 (.slice (some ⟨w.heap.size,0,none⟩) (m+1) (grownCap w (m+1) old E)) (m+1) (xs++[.int .i64 y0,.int .i64 y1]):=by
  intro old ho
  have hge:=grownCap_ge w (m+1) old E
  have hcm:grownCap w (m+1) old E≤maxLen:=grownCap_le_maxLen w _ old E (by unfold maxLen; omega)
  refine ⟨by simp [hxl]; omega,.inr ⟨w.heap.size,_,_,rfl,hB,heap_alloc_new w.drew _,hge,hcm,?_,?_⟩⟩
  ·simp only [Array.size_append,List.size_toArray,size_zeroCells,hzc,hxl]
   simp
   omega
  ·simp only [Array.toList_append]
   exact List.take_left' (by simp [hxl]; omega)
 have grw:∀ (oo:Obj),w.grownBy (w.drew.alloc oo) none:=fun oo=>⟨rfl,rfl,rfl,by simp,fun k hk _=>Below.heap_alloc w.drew oo k hk⟩
 rcases hown.2 with ⟨rfl,hn⟩ | ⟨g,cap,cur,rfl,hbg,hg,hnc,hcm,hcs,htake⟩
 ·subst hn
  obtain rfl:=List.length_eq_zero_iff.1 (show xs.length=0 by omega)
  have hr:=run_append_nil (P:=Tryz.prog) w T ty E i _ ht hi hz0 ⟨b,0,none⟩ 1 1 [.int .i64 y0,.int .i64 y1] (by rw [hz1]; rfl) hys (by omega) (by omega) (by rw [hz2]; decide)
  have hbg:=big 0 (by omega)
  simp only [List.nil_append,Array.empty_append,Nat.zero_add] at hbg hr
  exact ⟨_,_,_,_,hr,rfl,by simpa using hbg,.inr ⟨rfl,grw _⟩⟩
 ·by_cases hroom:m+1≤cap
  ·have hr:=run_append_room (P:=Tryz.prog) w T ty E i ht hi g m cap cur hg ⟨b,0,none⟩ 1 1 [.int .i64 y0,.int .i64 y1] (by rw [hz1]; rfl) hys (by simp [Value.oneCell']) hroom (by rw [hz1,hcs]; simp; omega)
   refine ⟨_,_,_,_,hr,rfl,⟨by simp [hxl]; omega,.inr ⟨g,cap,_,rfl,hbg,setRow_heap w g cur _ E _ hg,hroom,hcm,?_,?_⟩⟩,.inl ⟨rfl,⟨rfl,rfl,rfl,by simp,fun k _ hk=>setRow_other w g k _ (fun e=>hk (by simp [Value.ownBlock,e]))⟩⟩⟩
   ·simp only [List.size_toArray,List.length_append,List.length_take,List.length_drop,Array.length_toList,hz1,hcs]
    simp
    omega
   ·rw [hz1,htake]
    exact List.take_left' (by simp [hxl]; omega)
  ·have holds:∀ j u,xs[j]?=some u→w.cell? ((⟨g,0,none⟩:Addr).add j)=some u:=World.ownsRow.cells hown (g:=g) rfl
   have hr:=run_append_grow (P:=Tryz.prog) w T ty E i _ ht hi hz0 ⟨g,0,none⟩ m cap xs (by rw [hz1]; exact hxl) holds ⟨b,0,none⟩ 1 1 [.int .i64 y0,.int .i64 y1] (by rw [hz1]; rfl) hys (by omega) (by omega) (by
    rw [hz2]
    exact growslice_fits (by omega) (by
     calc (m+1)*16≤1000000*16:=Nat.mul_le_mul_right _ hlen
      _≤_:=by decide))
   exact ⟨_,_,_,_,hr,rfl,big cap (by omega),.inr ⟨rfl,grw _⟩⟩
theorem wpl_app2 {T E:TypeId} (tc:TwoInts T E) {w:World} {ops:Array Oper} {rest:List Oper} {o:Oper} {a:Act} {Q:Exit→Act→World→Prop} (hgd:o.guard=none) (s x:Operand)
 (ho:o.op=.call { callee:=.builtin .append,args:=#[s,x],argTypes:=#[T,T] })
 (B:Nat) (v:Value) (m:Nat) (xs:List Value) (y0 y1:Int) (b:Nat) (hown:w.ownsRow B E 2 v m xs) (hs:a.eval s=v) (hx:a.eval x=.slice (some ⟨b,0,none⟩) 1 1) (hb:b=w.heap.size)
 (hlen:m<1000000) (hB:B≤w.heap.size)
 (h:∀ g c w',w'.ownsRow B E 2 (.slice (some ⟨g,0,none⟩) (m+1) c) (m+1) (xs++[.int .i64 y0,.int .i64 y1])→((v.ownBlock=some g∧w.grownBy w' v.ownBlock)∨(w.heap.size≤g∧w.grownBy w' none))→wpList Tryz.prog ops Q rest (a.put o.dst (.slice (some ⟨g,0,none⟩) (m+1) c)) w') :
 wpList Tryz.prog ops Q (o::rest) a (w.alloc (.cells #[.int .i64 y0,.int .i64 y1] E)):=by
 subst hb
 refine wpList_plain hgd fun K hK=>?_
 have hcells:∀ (j:Nat) (u:Value),([Value.int .i64 y0,.int .i64 y1]:List Value)[j]?=some u→(w.alloc (.cells #[.int .i64 y0,.int .i64 y1] E)).cell? ((⟨w.heap.size,0,none⟩:Addr).add j)=some u:=by
  intro j u hj
  have hn:=heap_alloc_new w (.cells #[.int .i64 y0,.int .i64 y1] E)
  match j,hj with
  | 0,hj=>simp at hj; subst hj; simp only [World.cell?,Addr.add,if_true]; rw [hn]; rfl
  | 1,hj=>simp at hj; subst hj; simp only [World.cell?,Addr.add,show ¬ (1=0) by decide,if_false]; rw [hn]; rfl
  | j+2,hj=>simp at hj
 obtain ⟨g,n',c',w',hr,rfl,h2,h3⟩:=run_app2 tc (w.alloc (.cells #[.int .i64 y0,.int .i64 y1] E)) B o.type v m xs (World.ownsRow.alloc hown _) w.heap.size y0 y1 hcells hlen (by simp; omega)
 unfold Oper.wp execOp
 simp only [ho,resolve,invoke,builtin,Sem.run_bind,Sem.run_pure,Result.andThen_ok,List.map_toArray,List.map_cons,List.map_nil,hs,hx]
 rw [hr]
 have hal:∀ row,w.grownBy (w.alloc (.cells #[.int .i64 y0,.int .i64 y1] E)) row:=fun row=>World.grownBy_alloc w _ row
 rcases h3 with ⟨hv,hg⟩ | ⟨hk,hg⟩
 ·exact hK _ _ (h g c' w' h2 (.inl ⟨hv,(hal v.ownBlock).trans hg⟩))
 ·exact hK _ _ (h g c' w' h2 (.inr ⟨by rw [hk]; simp,(hal none).trans hg⟩))
def flat2 (l:List (Int×Int)):List Value:=l.flatMap fun p=>[.int .i64 p.1,.int .i64 p.2]
theorem flat2_snoc (l:List (Int×Int)) (a b:Int):flat2 (l++[(a,b)])=flat2 l++[.int .i64 a,.int .i64 b]:=by simp [flat2]
theorem flat2_get (l:List (Int×Int)) (s:Nat) (h:s<l.length):(flat2 l)[s*2]?=some (.int .i64 l[s].1)∧(flat2 l)[s*2+1]?=some (.int .i64 l[s].2):=by
 induction l generalizing s with
 | nil=>simp at h
 | cons p l ih =>
  cases s with
  | zero=>exact ⟨rfl,rfl⟩
  | succ s =>
   have:=ih s (by simpa using h)
   rw [show (s+1)*2=s*2+1+1 by omega]
   simpa [flat2] using this
def arrowsTo (G:List (List Int)):Nat→Nat
 | 0=>0
 | k+1=>arrowsTo G k+(G.getD k []).length
theorem containsFunc_any (v b:Value) (F:Nat) (xs:List Int) (p:Int→Bool) (w:World) (h:IntsAt w v xs)
 (eg:∀ args w,(callFunc F args).run Tryz.prog w=.ok (.enter F args) w)
 (hF:∀ x:Int,x∈xs→Calls Tryz.prog F #[.int .i64 x,b] w fun e w'=>e=.returned (.bool (p x))∧w=w') :
 Calls Tryz.prog 135 #[v,.func (.func F) #[] #[b]] w fun e w'=>e=.returned (.bool (decide (0≤idxOf p xs)))∧w=w':=by
 have hI:=indexFunc_any v b F xs p w h eg hF
 clear hF eg
 go_enter Tryz.func135,Tryz.ntmps135
 go_wp2_with fail
 refine hI.mono ?_
 rintro e w' ⟨rfl,rfl⟩
 go_wp2
 go_ret
 exact ⟨ret_bool (by simp),rfl⟩
def BackTo (G:List (List Int)) (k j:Nat) (F:Nat→List Int):Prop :=
 ∀ t,t<G.length→((F t).length≤arrowsTo G k+j∧∀ y:Int,y∈F t↔∃ v:Nat,y=v∧(v<k∧(t:Int)∈G.getD v []∨v=k∧(t:Int)∈(G.getD k []).take j))
theorem BackTo.zero (G:List (List Int)):BackTo G 0 0 (fun _=>[]):=by
 intro t _
 refine ⟨Nat.zero_le _,fun y=>⟨fun h=>(by cases h),fun ⟨v,_,h⟩=>?_⟩⟩
 rcases h with ⟨h,_⟩ | ⟨_,h⟩
 ·omega
 ·simp at h
theorem BackTo.next {G:List (List Int)} {k:Nat} {F:Nat→List Int} (h:BackTo G k (G.getD k []).length F):BackTo G (k+1) 0 F:=by
 intro t ht
 obtain ⟨h1,h2⟩:=h t ht
 refine ⟨by simpa [arrowsTo] using h1,fun y=>?_⟩
 rw [h2 y]
 constructor
 ·rintro ⟨v,hv,h⟩
  refine ⟨v,hv,.inl ?_⟩
  rcases h with ⟨a,b⟩ | ⟨rfl,b⟩
  ·exact ⟨by omega,b⟩
  ·rw [List.take_length] at b; exact ⟨by omega,b⟩
 ·rintro ⟨v,hv,h⟩
  rcases h with ⟨a,b⟩ | ⟨_,b⟩
  ·refine ⟨v,hv,?_⟩
   by_cases e:v=k
   ·subst e; exact .inr ⟨rfl,by rw [List.take_length]; exact b⟩
   ·exact .inl ⟨by omega,b⟩
  ·simp at b
theorem BackTo.add {G:List (List Int)} {k j u:Nat} {F:Nat→List Int} (h:BackTo G k j F) (hj:(G.getD k [])[j]?=some (u:Int)):BackTo G k (j+1) (updN F u (F u++[(k:Int)])):=by
 have hjl:j<(G.getD k []).length:=by
  by_cases q:j<(G.getD k []).length
  ·exact q
  ·rw [List.getElem?_eq_none (by omega)] at hj; cases hj
 have htk:(G.getD k []).take (j+1)=(G.getD k []).take j++[(u:Int)]:=by
  rw [List.take_add_one,hj]; rfl
 intro t ht
 obtain ⟨h1,h2⟩:=h t ht
 by_cases e:t=u
 ·subst e
  rw [updN_same]
  refine ⟨by rw [List.length_append]; simp only [List.length_cons,List.length_nil]; omega,fun y=>?_⟩
  rw [List.mem_append,h2 y,htk]
  simp only [List.mem_singleton,List.mem_append]
  constructor
  ·rintro (⟨v,hv,h⟩ | rfl)
   ·refine ⟨v,hv,?_⟩
    rcases h with h | ⟨a,b⟩
    ·exact .inl h
    ·exact .inr ⟨a,.inl b⟩
   ·exact ⟨k,rfl,.inr ⟨rfl,.inr (by simp)⟩⟩
  ·rintro ⟨v,hv,h⟩
   rcases h with h | ⟨a,b | b⟩
   ·exact .inl ⟨v,hv,.inl h⟩
   ·exact .inl ⟨v,hv,.inr ⟨a,b⟩⟩
   ·right; rw [hv,a]
 ·rw [updN_other _ _ _ e]
  refine ⟨by omega,fun y=>?_⟩
  rw [h2 y,htk]
  simp only [List.mem_append,List.mem_singleton]
  constructor
  ·rintro ⟨v,hv,h⟩
   refine ⟨v,hv,?_⟩
   rcases h with h | ⟨a,b⟩
   ·exact .inl h
   ·exact .inr ⟨a,.inl b⟩
  ·rintro ⟨v,hv,h⟩
   refine ⟨v,hv,?_⟩
   rcases h with h | ⟨a,b | b⟩
   ·exact .inl h
   ·exact .inr ⟨a,b⟩
   ·exact absurd (by omega) e
set_option maxHeartbeats 8000000
def arrL (K N:Nat) (T:List Int) (u n:Nat):List (Int×Int):=(List.range n).map fun s=>((toN K N u s:Int),labN K T u s)
theorem arrL_len (K N:Nat) (T:List Int) (u n:Nat):(arrL K N T u n).length=n:=by simp [arrL]
theorem arrL_succ (K N:Nat) (T:List Int) (u n:Nat):arrL K N T u (n+1)=arrL K N T u n++[((toN K N u n:Int),labN K T u n)]:=by simp [arrL,List.range_succ]
def arrTo (K N:Nat) (T:List Int) (k j:Nat) (u:Nat):List (Int×Int):=if u<k then arrL K N T u K else if u=k then arrL K N T u j else []
theorem arrTo_zero (K N:Nat) (T:List Int):arrTo K N T 0 0=fun _=>[]:=by
 funext u; unfold arrTo
 rw [if_neg (by omega)]
 split
 ·simp [arrL]
 ·rfl
theorem arrTo_next (K N:Nat) (T:List Int) (k:Nat):arrTo K N T k K=arrTo K N T (k+1) 0:=by
 funext u; unfold arrTo
 by_cases h:u<k
 ·rw [if_pos h,if_pos (by omega)]
 ·rw [if_neg h]
  by_cases e:u=k
  ·rw [if_pos e,if_pos (by omega)]
  ·rw [if_neg e,if_neg (by omega)]
   split
   ·simp [arrL]
   ·rfl
theorem arrTo_at (K N:Nat) (T:List Int) (k j:Nat):arrTo K N T k j k=arrL K N T k j:=by unfold arrTo; rw [if_neg (by omega),if_pos rfl]
theorem arrTo_step (K N:Nat) (T:List Int) (k j:Nat):updN (arrTo K N T k j) k (arrL K N T k (j+1))=arrTo K N T k (j+1):=by
 funext u
 by_cases e:u=k
 ·subst e; rw [updN_same,arrTo_at]
 ·rw [updN_other _ _ _ e]; unfold arrTo
  by_cases h:u<k
  ·rw [if_pos h,if_pos h]
  ·rw [if_neg h,if_neg h,if_neg e,if_neg e]
theorem twoArrow:TwoInts 158 160:=twoInts_mk (by kernel_rfl) (by kernel_rfl)
theorem oneArrows:OneCell 156 158 (.slice none 0 0) 24:=⟨by kernel_rfl,by kernel_rfl,rfl,by decide,fun _=>by kernel_rfl⟩
structure AN (f:Names) (ov:Value) (vals:List Value) (n:Nat) (F:Nat→List (Int×Int)):Prop where
 outer:f (1,0)=some (rowV 158 ov vals)
 len:vals.length=n
 rows:∀ u,u<n→f (2,u)=some ⟨160,2,vAt vals u,(F u).length,flat2 (F u)⟩
section
variable {B:Nat} {w:World} {f:Names} {ov:Value} {vals:List Value} {n:Nat} {F:Nat→List (Int×Int)}
def nils2 (n:Nat):Names:=fun i=>if i.1=2∧i.2<n then some ⟨160,2,.slice none 0 0,0,[]⟩ else none
theorem rows_nils2 (B:Nat) (w:World) (n:Nat):Rows B w (nils2 n):=by
 refine ⟨fun i r hi=>?_,fun i j r s hi _ _=>?_⟩
 ·unfold nils2 at hi
  split at hi
  ·injection hi with hi; subst hi; exact World.ownsRow_nil w B _ 2
  ·cases hi
 ·left
  unfold nils2 at hi
  split at hi
  ·injection hi with hi; subst hi; rfl
  ·cases hi
theorem AN.made {w1:World} (n:Nat) (hb:Below w.heap.size w w1) (hB:B≤w.heap.size) (ho:OwnV 158 w.heap.size w1 ov (List.replicate n (.slice none 0 0))) :
 ∃ f,Rows B w1 f∧AN f ov (List.replicate n (.slice none 0 0)) n (fun _=>[]):=by
 refine ⟨_,(rows_nils2 B w n).add (i:=(1,0)) (r':=rowV 158 ov (List.replicate n (.slice none 0 0))) hb (ho.mono hB) (fun k hk=>(ho.lt k hk).1),⟨upd_same _ _ _,by simp,fun u hu=>?_⟩⟩
 rw [upd_ne _ _ (by simp)]
 show nils2 n (2,u)=_
 unfold nils2
 rw [if_pos ⟨rfl,hu⟩]
 simp [vAt,List.getD,hu,flat2]
theorem AN.app (h:AN f ov vals n F) (hr:Rows B w f) {w1:World} {u g c:Nat} (hu:u<n) (x y:Int)
 (ho:w1.ownsRow B 160 2 (.slice (some ⟨g,0,none⟩) ((F u).length+1) c) ((F u).length+1) (flat2 (F u)++[.int .i64 x,.int .i64 y]))
 (hal:((vAt vals u).ownBlock=some g∧w.grownBy w1 (vAt vals u).ownBlock)∨(w.heap.size≤g∧w.grownBy w1 none)) :
 w1.cell? (valAt ov u)=some (vAt vals u)∧w1.frozen? (valAt ov u)=false∧B≤(valAt ov u).block ∧
 ∃ f' vals',Rows B (w1.setCell (valAt ov u) (.slice (some ⟨g,0,none⟩) ((F u).length+1) c)) f'∧AN f' ov vals' n (updN F u (F u++[(x,y)])):=by
 have hrow:=h.rows u hu
 have hg:w.grownBy w1 (vAt vals u).ownBlock:=grown_via (hal.imp (·.2) (·.2))
 have hob:(Value.slice (some ⟨g,0,none⟩) ((F u).length+1) c).ownBlock=(vAt vals u).ownBlock∨∃ k,(Value.slice (some ⟨g,0,none⟩) ((F u).length+1) c).ownBlock=some k∧w.heap.size≤k:=by
  rcases hal with ⟨q,_⟩ | ⟨q,_⟩
  ·exact .inl q.symm
  ·exact .inr ⟨g,rfl,q⟩
 have h1:=hr.grown (r':=⟨160,2,.slice (some ⟨g,0,none⟩) ((F u).length+1) c,(F u).length+1,flat2 (F u)++[Value.int .i64 x,Value.int .i64 y]⟩) hrow hg (show Row.own B w1 ⟨_,_,_,_,_⟩ from ho) hob
 have ho':upd f (2,u) (some ⟨160,2,.slice (some ⟨g,0,none⟩) ((F u).length+1) c,(F u).length+1,flat2 (F u)++[Value.int .i64 x,Value.int .i64 y]⟩) (1,0)=some (rowV 158 ov vals):=by rw [upd_ne _ _ (by simp)]; exact h.outer
 have hl:u<vals.length:=by rw [h.len]; exact hu
 have hO:=h1.ownV ho'
 refine ⟨hO.at.cellV u hl,hO.frz u hl,(hO.blkB u hl).2,_,_,h1.setV ho' u hl _,⟨upd_same _ _ _,by simpa using h.len,fun t ht=>?_⟩⟩
 rw [upd_ne _ _ (by simp)]
 by_cases e:t=u
 ·subst e
  rw [upd_same,vAt_set_same hl,updN_same,flat2_snoc]; simp
 ·rw [upd_ne _ _ (by simpa using e),vAt_set_ne e,updN_other _ _ _ e]
  exact h.rows t ht
end
def ArrowsAt (w:World) (v:Value) (K N:Nat) (T:List Int):Prop :=
 ∃ vs,ValsAt w v vs∧vs.length=N∧∀ u,u<N→∃ g c,vAt vs u=.slice (some ⟨g,0,none⟩) K c∧K≤c∧∀ s,s<K→w.cell? ⟨g,s*2,none⟩=some (.int .i64 (toN K N u s))∧w.cell? ⟨g,s*2+1,none⟩=some (.int .i64 (labN K T u s))
theorem ArrowsAt.below {w w':World} {v:Value} {K N:Nat} {T:List Int} (h:ArrowsAt w v K N T) (hb:Below w.heap.size w w'):ArrowsAt w' v K N T:=by
 obtain ⟨vs,h1,h2,h3⟩:=h
 refine ⟨vs,h1.below hb,h2,fun u hu=>?_⟩
 obtain ⟨g,c,e,hc,h4⟩:=h3 u hu
 exact ⟨g,c,e,hc,fun s hs=>⟨cell_keep hb (h4 s hs).1,cell_keep hb (h4 s hs).2⟩⟩
theorem AN.reads {B:Nat} {w:World} {f:Names} {ov:Value} {vals:List Value} {K N:Nat} {T:List Int} (hK:1≤K) (h:AN f ov vals N (arrTo K N T N 0)) (hr:Rows B w f):ArrowsAt w ov K N T:=by
 refine ⟨vals,(hr.ownV h.outer).at,h.len,fun u hu=>?_⟩
 have hrow:=h.rows u hu
 have hF:arrTo K N T N 0 u=arrL K N T u K:=by unfold arrTo; rw [if_pos hu]
 rw [hF,arrL_len] at hrow
 obtain ⟨g,c,e,hc⟩:=row_shape (hr.1 _ _ hrow) hK
 refine ⟨g,c,e,hc,fun s hs=>?_⟩
 have c0:=hr.cell hrow (g:=g) (cap:=c) e (s*2) (by simp; omega)
 have c1:=hr.cell hrow (g:=g) (cap:=c) e (s*2+1) (by simp; omega)
 have:=flat2_get (arrL K N T u K) s (by rw [arrL_len]; exact hs)
 have ea:(arrL K N T u K)[s]'(by rw [arrL_len]; exact hs)=((toN K N u s:Int),labN K T u s):=by simp [arrL]
 rw [ea] at this
 exact ⟨c0.trans this.1,c1.trans this.2⟩
theorem arrows_any (r:Nat→Addr) (K R:Nat) (va:Option Addr) (vn vc:Nat) (T:List Int) (w:World) (hg:Glob r w) (h:IntsAt w (.slice va vn vc) T) (hok:RuleOk K R T) (hl:T.length≤256) :
 Calls Tryz.prog 97 #[.agg #[.int .i64 K,.int .i64 R,.slice va vn vc]] w (Ret1 (fun x w'=>ArrowsAt w' x K (T.length/K) T) w):=by
 have b0:=belowAlloc w (.cells #[.int .i64 K,.int .i64 R,.slice va vn vc] 24)
 have q:Box3 (w.alloc (.cells #[.int .i64 K,.int .i64 R,.slice va vn vc] 24)) w.heap.size (.int .i64 K) (.int .i64 R) (.slice va vn vc):=by simp [Box3,go_sem]
 have hk1:=hok.k1
 have hk4:=hok.k4
 have hN0:T.length/K≤256:=Nat.le_trans (Nat.div_le_self _ _) hl
 have hEdge:=fun (u s:Nat) (w':World) (hgl:Glob r w') (hT:IntsAt w' (.slice va vn vc) T) (hu:u<T.length/K) (hs:s<K)=>over_Edge r K R va vn vc T u s w' hgl hT hok hl hu hs
 have hNodes:=fun (w':World) (hgl:Glob r w') (hT:IntsAt w' (.slice va vn vc) T)=>over_Nodes r K R va vn vc T w' hgl hT hok hl
 generalize T.length/K=N at *
 replace hEdge:=Hd hEdge
 replace hNodes:=Hd hNodes
 replace hg:=Hd (hg.below b0)
 replace h:=Hd (h.below b0)
 replace hok:=Hd hok
 go_enter Tryz.func97,Tryz.ntmps97
 go_wp2_with fail
 refine (hNodes.out _ hg.out h.out).mono ?_
 rintro e w1 ⟨x,y,rfl,b1,rfl,rfl⟩
 have q1:=q.below b1
 have b01:=Below.step b0 b1
 have hg1:=hg.out.below b1
 have hT1:=h.out.below b1
 clear q
 go_wp2_with fail
 obtain ⟨ov,w2,mk,ho,hb2⟩:=run_makeW oneArrows (N:Int) N w1 rfl (by omega)
 obtain ⟨f1,hr1,h1⟩:=AN.made N hb2 (Nat.le_refl _) ho
 obtain ⟨oa,on,oc,rfl⟩:=ho.shape
 have lo:=fun w'=>(ho.at).len oneArrows 3 w'
 rw [List.length_replicate] at lo
 rw [mk]
 simp only [Result.andThen]
 rw [← arrTo_zero K N T] at h1
 replace hr1:=Hd hr1
 replace ho:=Hd ho
 replace q1:=Hd q1
 replace hg1:=Hd hg1
 replace hT1:=Hd hT1
 clear mk
 go_wp2_with fail
 clear lo
 go_loopw [20] (fun kv wr=>∃ (k:Nat) (f:Names) (vals:List Value),k≤N∧kv=.int .i64 k∧Rows w1.heap.size wr f∧Below w1.heap.size w1 wr∧AN f (.slice oa on oc) vals N (arrTo K N T k 0)) (fun kv _=>N-(intOf kv).toNat)
 case atStart=>exact ⟨0,f1,_,by omega,rfl,hr1.out,hb2,h1⟩
 case round =>
  clear h1 ho hr1 hb2
  obtain ⟨k,f2,vals,hk,rfl,hr2,b2,h2⟩:=hrel
  obtain ⟨wo,rfl⟩:∃ wo:World,wo=wr:=⟨_,rfl⟩
  by_cases hlt:k<N
  ·have z0:=(q1.out.below b2).1.1
   replace hr2:=Hd hr2
   go_wp2_with fail
   clear z0
   go_loopw [25] (fun jv wr=>∃ (j:Nat) (f:Names) (vals:List Value),j≤K∧jv=.int .i64 j∧Rows w1.heap.size wr f∧Below w1.heap.size w1 wr∧AN f (.slice oa on oc) vals N (arrTo K N T k j)) (fun jv _=>K-(intOf jv).toNat)
   case atStart=>exact ⟨0,f2,vals,by omega,rfl,hr2.out,b2,h2⟩
   case round =>
    clear hr2 h2 b2
    obtain ⟨j,f3,vals,hj,rfl,hr3,b3,h3⟩:=hrel
    obtain ⟨wo,rfl⟩:∃ wo:World,wo=wr:=⟨_,rfl⟩
    by_cases hjl:j<K
    ·obtain ⟨z0,z1,z2⟩:=(q1.out.below b3).1
     replace hr3:=Hd hr3
     go_wp2_with fail
     refine (hEdge.out k j _ (hg1.out.below b3) (hT1.out.below b3) hlt hjl).mono ?_
     rintro e w4 ⟨x,y,z,rfl,b4,rfl,rfl,rfl⟩
     have hr4:=hr3.out.below b4
     have b34:=Below.trans b3 (b4.mono b3.size)
     clear z0 z1 z2
     have hOV:=(hr4.ownV h3.outer).at
     have iO:=fun w'=>hOV.idx oneArrows k (by rw [h3.len]; exact hlt) w'
     have cO:=hOV.cellV k (by rw [h3.len]; exact hlt)
     have hT:=hr4.1 _ _ (h3.rows k hlt)
     have hB4:w1.heap.size≤w4.heap.size:=b34.size
     have happ:=fun (w5:World) (g c:Nat)=>h3.app hr4 (w1:=w5) (g:=g) (c:=c) hlt (toN K N k j) (labN K T k j)
     rw [arrTo_at,← arrL_succ,arrTo_step] at happ
     rw [arrTo_at] at hT
     unfold Row.own at hT
     simp only [arrL_len] at hT
     generalize vAt vals k=tv at *
     generalize valAt (.slice oa on oc) k=ua at *
     obtain ⟨X,hX⟩:∃ X,toN K N k j=X:=⟨_,rfl⟩
     obtain ⟨Y,hY⟩:∃ Y,labN K T k j=Y:=⟨_,rfl⟩
     rw [hX,hY] at happ ⊢
     replace happ:=Hd happ
     replace hr4:=Hd hr4
     replace hOV:=Hd hOV
     replace hX:=Hd hX
     replace hY:=Hd hY
     go_wp2_with (at_builtin; go_loud (refine wpl_app2 twoArrow rfl _ _ rfl w1.heap.size tv j (flat2 (arrL K N T k j)) X Y _ hT rfl rfl (by simp) (by omega) hB4 ?_))
     intro g c w7 ho7 hal7
     obtain ⟨y1,y2,y3,f8,vals8,hr8,h8⟩:=happ.out w7 g c (by rw [arrL_len]; exact ho7) hal7
     rw [arrL_len] at hr8
     replace hr8:=Hd hr8
     replace ho7:=Hd ho7
     have b7:Below w1.heap.size w4 w7:=by
      rcases hal7 with ⟨hv,hgr⟩ | ⟨_,hgr⟩
      ·exact (Below.refl _ _).grown hgr hB4 (fun m hm=>(World.ownsRow.lt hT m hm).1)
      ·exact (Below.refl _ _).grown hgr hB4 (fun m hm=>by cases hm)
     clear hal7 hT cO
     go_wp2
     go_roundw
     case measure=>simp [intOf]; omega
     case rel=>exact ⟨j+1,f8,vals8,by omega,by go_num,hr8.out,(b34.trans b7).setCell y3 _,h8⟩
    ·obtain rfl:j=K:=by omega
     rw [arrTo_next] at h3
     replace hr3:=Hd hr3
     go_wp2
     go_roundw
     case measure=>simp [intOf]; omega
     case rel=>exact ⟨k+1,f3,vals,by omega,by go_num,hr3.out,b3,h3⟩
  ·obtain rfl:k=N:=by omega
   have hA:=h2.reads hk1 hr2
   replace hA:=Hd hA
   replace hr2:=Hd hr2
   have bE:=Below.step b01 b2
   go_wp2
   go_ret
   exact ⟨_,rfl,bE,hA.out⟩
end Go.Proofs.YtkaoebokbfcmhaaGreatDoor
namespace Go.Proofs.YtkaoebokbfcmhaaGreatDoor
def ded (zs:List Int):Nat→List Int
 | 0=>[]
 | m+1=>ded zs m++if m=0∨zs.getD m 0≠zs.getD (m-1) 0 then [zs.getD m 0] else []
theorem ded_len (zs:List Int):∀ m,(ded zs m).length≤m
 | 0=>Nat.le_refl _
 | m+1=>by
  have:=ded_len zs m
  rw [ded,List.length_append]
  split<;>simp<;>omega
theorem sorted_getD {zs:List Int} (h:zs.Pairwise (·≤·)) {i j:Nat} (hij:i≤j) (hj:j<zs.length):zs.getD i 0≤zs.getD j 0:=by
 simp only [List.getD_eq_getElem?_getD,List.getElem?_eq_getElem hj,List.getElem?_eq_getElem (show i<zs.length by omega),Option.getD_some]
 by_cases e:i=j
 ·subst e; exact Int.le_refl _
 ·exact List.pairwise_iff_getElem.1 h i j (by omega) hj (by omega)
theorem ded_spec {zs:List Int} (h:zs.Pairwise (·≤·)):∀ m,m≤zs.length→(ded zs m).Pairwise (·<·)∧(∀ x,x∈ded zs m↔x∈zs.take m)
 | 0,_=>by simp [ded]
 | m+1,hm=>by
  obtain ⟨h1,h2⟩:=ded_spec h m (by omega)
  have ht:zs.take (m+1)=zs.take m++[zs.getD m 0]:=by
   rw [List.take_add_one,List.getElem?_eq_getElem (show m<zs.length by omega)]
   simp [List.getD,show m<zs.length by omega]
  have top:∀ x∈zs.take m,m≠0∧x≤zs.getD (m-1) 0:=fun x hx=>by
   obtain ⟨i,hi,e⟩:=List.mem_iff_getElem.1 hx
   have hi':i<m:=by rw [List.length_take] at hi; omega
   have:=sorted_getD h (show i≤m-1 by omega) (by omega)
   rw [List.getElem_take] at e
   rw [List.getD_eq_getElem?_getD,List.getElem?_eq_getElem (show i<zs.length by omega),Option.getD_some,e] at this
   exact ⟨by omega,this⟩
  rw [ded,ht]
  by_cases c:m=0∨zs.getD m 0≠zs.getD (m-1) 0
  ·rw [if_pos c]
   refine ⟨List.pairwise_append.2 ⟨h1,by simp,fun a ha b hb=>?_⟩,fun x=>by simp [h2]⟩
   rw [List.mem_singleton] at hb
   subst hb
   obtain ⟨t1,t2⟩:=top a ((h2 a).1 ha)
   have:=sorted_getD h (show m-1≤m by omega) (by omega)
   rcases c with c | c<;>omega
  ·rw [if_neg c,List.append_nil]
   refine ⟨h1,fun x=>?_⟩
   rw [h2,List.mem_append,List.mem_singleton]
   constructor
   ·exact .inl
   ·rintro (q | q)
    ·exact q
    ·have c2:m≠0∧zs.getD m 0=zs.getD (m-1) 0:=by
      refine ⟨fun e=>c (.inl e),?_⟩
      apply Classical.byContradiction
      intro e; exact c (.inr e)
     rw [q,c2.2,List.mem_iff_getElem]
     refine ⟨m-1,by rw [List.length_take]; omega,?_⟩
     rw [List.getElem_take]
     simp [List.getD,show m-1<zs.length by omega]
theorem sorted_eqI:∀ {L M:List Int},L.Pairwise (·<·)→M.Pairwise (·<·)→(∀ v,v∈L↔v∈M)→L=M
 | [],[],_,_,_=>rfl
 | [],b::M,_,_,h=>absurd ((h b).2 List.mem_cons_self) (by simp)
 | a::L,[],_,_,h=>absurd ((h a).1 List.mem_cons_self) (by simp)
 | a::L,b::M,hL,hM,h=>by
  obtain ⟨a1,a2⟩:=List.pairwise_cons.1 hL
  obtain ⟨b1,b2⟩:=List.pairwise_cons.1 hM
  have hab:a=b:=by
   rcases List.mem_cons.1 ((h a).1 List.mem_cons_self) with e | e
   ·exact e
   ·rcases List.mem_cons.1 ((h b).2 List.mem_cons_self) with e2 | e2
    ·exact e2.symm
    ·have:=b1 a e; have:=a1 b e2; omega
  subst hab
  rw [sorted_eqI a2 b2 fun v=>?_]
  have:=h v
  simp only [List.mem_cons] at this
  constructor
  ·intro hv
   rcases this.1 (.inr hv) with e | e
   ·subst e; exact absurd (a1 v hv) (Int.lt_irrefl _)
   ·exact e
  ·intro hv
   rcases this.2 (.inr hv) with e | e
   ·subst e; exact absurd (b1 v hv) (Int.lt_irrefl _)
   ·exact e
theorem ded_pair {K N:Nat} {T:List Int} (hN:0<N) {p:Nat} {zs:List Int} (hs:zs.Pairwise (·≤·)) (hm:∀ x,x∈zs↔x∈(rawP K N T (p/N) (p%N) K).map fun (n:Nat)=>(n:Int)) :
 ded zs zs.length=(pairL K N T p).map fun (n:Nat)=>(n:Int):=by
 obtain ⟨h1,h2⟩:=ded_spec hs zs.length (Nat.le_refl _)
 refine sorted_eqI h1 (List.pairwise_map.2 ((pairL_sorted K N T p).imp fun h=>by omega)) fun v=>?_
 rw [h2,List.take_length,hm]
 simp only [List.mem_map]
 constructor
 ·rintro ⟨q,hq,rfl⟩; exact ⟨q,(mem_pairL hN).2 (mem_rawP.1 hq),rfl⟩
 ·rintro ⟨q,hq,rfl⟩; exact ⟨q,mem_rawP.2 ((mem_pairL hN).1 hq),rfl⟩
open Go.RowKit Go.Shelf
set_option maxRecDepth 100000
def Tryz.laysCompact_ren:Go.Shelf.Ren:=⟨fun | 20=>99 | n=>n,fun | 22=>22 | 3=>3 | 4=>4 | 0=>0 | n=>n,fun | n=>n⟩
theorem Tryz.laysCompact:Go.Proofs.Lays2.n20 Tryz.prog Tryz.laysCompact_ren:={
 mixed:=by kernel_rfl
 f20:=Tryz.func99.trans (congrArg some (by kernel_rfl))
 t0:=Tryz.underlying0
 a0:=Tryz.isAgg0
 z0:=Tryz.sizeOf0
 v0:=Tryz.zeroValue0
 t3:=Tryz.underlying3
 a3:=Tryz.isAgg3
 z3:=Tryz.sizeOf3
 v3:=Tryz.zeroValue3
 t4:=Tryz.underlying4
 a4:=Tryz.isAgg4
 z4:=Tryz.sizeOf4
 v4:=Tryz.zeroValue4
 t22:=Tryz.underlying22
 a22:=Tryz.isAgg22
 z22:=Tryz.sizeOf22
 v22:=Tryz.zeroValue22
 i3:=by kernel_rfl }
theorem compact_ded (zs:List Int):Lib.compact zs=ded zs zs.length:=by
 have:∀ m,m≤zs.length→Lib.compactUpTo zs.toArray m=ded zs m:=by
  intro m
  induction m with
  | zero=>intro _; rfl
  | succ m ih =>
   intro hm
   rw [Lib.compactUpTo_succ,ih (by omega),ded]
   have e1:zs.toArray[m]! = zs.getD m 0:=by
    rw [getElem!_pos zs.toArray m (by simp; omega)]; simp [List.getD,show m<zs.length by omega]
   have e2:zs.toArray[m-1]! = zs.getD (m-1) 0:=by
    rw [getElem!_pos zs.toArray (m-1) (by simp; omega)]; simp [List.getD,show m-1<zs.length by omega]
   unfold Lib.keeps
   rw [e1,e2]
   by_cases c:m=0∨zs.getD m 0≠zs.getD (m-1) 0
   ·rw [if_pos c,if_pos (by simpa using c)]
   ·rw [if_neg c,if_neg (by simpa using c)]
 exact this _ (Nat.le_refl _)
theorem OwnI.cutTo {B:Nat} {w:World} {a:Option Addr} {n c:Nat} {xs:List Int} (h:OwnI B w (.slice a n c) xs) (m:Nat) (hm:m≤xs.length):OwnI B w (.slice a m c) (xs.take m):=by
 rcases h.2 with ⟨e,e2⟩ | ⟨g,cap,cur,e,hB,hg,hn,hcm,hs,ht⟩
 ·injection e with e1 e3 e4
  subst e1 e4
  obtain rfl:=List.length_eq_zero_iff.1 e2
  obtain rfl:m=0:=by simpa using hm
  exact OwnI.nil B w
 ·injection e with e1 e3 e4
  subst e1 e4
  have hl:(xs.take m).length=m:=by simp; omega
  refine ⟨by simp,.inr ⟨g,c,cur,by rw [hl],hB,hg,by rw [hl]; omega,hcm,hs,?_⟩⟩
  rw [hl,List.map_take,← ht,List.take_take]
  congr 1
  omega
theorem compact_own (B:Nat) (v:Value) (xs:List Int) (w:World) (h:OwnI B w v xs) (hl:xs.length≤9223372036854775807) :
 Calls Tryz.prog 99 #[v] w fun e w'=>∃ x,e=.returned x∧x.ownBlock=v.ownBlock∧OwnI B w' x (ded xs xs.length)∧Below B w w':=by
 rcases h.2 with ⟨rfl,hn⟩ | ⟨g,cap,cur,rfl,hb,hg,hn,hm,hs,ht⟩
 ·obtain rfl:=List.length_eq_zero_iff.1 hn
  refine Calls.mono (Any.slices_Compact_int_empty Tryz.laysCompact none 0 w) ?_
  rintro e w' ⟨rfl,rfl⟩
  exact ⟨_,rfl,rfl,h,Below.refl _ _⟩
 ·refine Calls.mono (Any.slices_Compact_int_cells Tryz.laysCompact g 0 xs.length cap xs w (Nat.le_refl _) hl hn (fun j hj=>?_) (fun j hj=>?_)) ?_
  ·have:=h.at.cellD j hj
   rw [valAt_row] at this
   simpa using this
  ·have:=h.frz j hj
   rw [valAt_row] at this
   simpa using this
  ·rintro e w' ⟨rfl,q,rfl⟩
   rw [List.take_length,compact_ded]
   have hd:=ded_len xs xs.length
   have hL:(ded xs xs.length++List.replicate (xs.length-(ded xs xs.length).length) (0:Int)).length=xs.length:=by simp; omega
   have:=setCells_own (w0:=w) (ded xs xs.length++List.replicate (xs.length-(ded xs xs.length).length) 0) 0 xs (w.drewN q) rfl (by rw [hL]; omega) (h.drewN q) (below_drewN (Below.refl _ _) q)
   rw [hL,List.take_zero,List.nil_append,Nat.zero_add,List.drop_length,List.append_nil] at this
   have ho:=this.1.cutTo (ded xs xs.length).length (by rw [hL]; exact hd)
   rw [List.take_left'  rfl] at ho
   exact ⟨_,rfl,rfl,ho,this.2⟩
set_option maxHeartbeats 8000000
def Tryz.laysMul_ren:Go.Shelf.Ren:=⟨fun | 212=>110 | 263=>140 | 264=>141 | n=>n,fun | 46=>108 | 51=>82 | 146=>96 | 53=>50 | 148=>215 | n=>n,fun | n=>n⟩
theorem Tryz.laysMul:Go.Proofs.Lays.n212 Tryz.prog Tryz.laysMul_ren:={
 mixed:=by kernel_rfl
 f212:=Tryz.func110.trans (congrArg some (by kernel_rfl))
 f263:=Tryz.func140.trans (congrArg some (by kernel_rfl))
 f264:=Tryz.func141.trans (congrArg some (by kernel_rfl))
 t46:=Tryz.underlying108
 a46:=Tryz.isAgg108
 z46:=Tryz.sizeOf108
 v46:=Tryz.zeroValue108
 t51:=Tryz.underlying82
 a51:=Tryz.isAgg82
 z51:=Tryz.sizeOf82
 v51:=Tryz.zeroValue82
 t53:=Tryz.underlying50
 a53:=Tryz.isAgg50
 z53:=Tryz.sizeOf50
 v53:=Tryz.zeroValue50
 t146:=Tryz.underlying96
 a146:=Tryz.isAgg96
 z146:=Tryz.sizeOf96
 v146:=Tryz.zeroValue96
 t148:=Tryz.underlying215
 a148:=Tryz.isAgg215
 z148:=Tryz.sizeOf215
 v148:=Tryz.zeroValue215 }
theorem run_copyMin {w:World} {B:Nat} {v u d:Value} {xs ys:List Int} (off:Nat) (ty:TypeId) (dp:Option Addr) (dLen dCap:Nat) (hown:OwnI B w v xs) (hu:IntsAt w u ys) (hd:d=.slice dp dLen dCap)
 (hfit:off+dLen≤xs.length) (h0:0<dLen) (h1:0<ys.length) (hdp:dp=some (valAt v off)) :
 ∃ w',(Builtin.copy_ #[22,22] ty #[d,u]).run Tryz.prog w=.ok (.int .i64 ((ys.take dLen).length:Int)) w'∧OwnI B w' v (xs.take off++ys.take dLen++xs.drop (off+(ys.take dLen).length))∧Below B w w':=by
 subst hd
 obtain ⟨sp,sCap,rfl,hc1,h2,h3,h4⟩:=hu
 subst hdp
 cases sp with
 | none=>have:=h3 rfl; omega
 | some p =>
  rcases hown.2 with ⟨rfl,hn⟩ | ⟨g,cap,cur,rfl,hb,hg,hn,hm,hcs,ht⟩
  ·omega
  ·rw [valAt_row]
   obtain ⟨zs,hzs⟩:∃ zs,zs=ys.take dLen:=⟨_,rfl⟩
   have hzl:zs.length=Nat.min ys.length dLen:=by rw [hzs,List.length_take,Nat.min_comm]
   have hzd:zs.length≤dLen:=by rw [hzl]; exact Nat.min_le_right _ _
   rw [← hzs]
   have hsrc:∀ j u,(zs.map (Value.int .i64))[j]?=some u→w.cell? (p.add j)=some u:=by
    intro j u hj
    have hjl:j<zs.length:=by have:=(List.getElem?_eq_some_iff.1 hj).1; simpa using this
    have hjy:j<ys.length:=by rw [hzl] at hjl; exact Nat.lt_of_lt_of_le hjl (Nat.min_le_left _ _)
    have:=h4 j hjy
    simp only [valAt] at this
    rw [this,← hj,List.getElem?_map,List.getElem?_eq_getElem hjl]
    simp [hzs]
   have hcl:cur.toList.length=cap:=by rw [Array.length_toList,hcs]; omega
   have hr:=run_copy_row (P:=Tryz.prog) w 22 22 ty 3 g off dLen dCap p ys.length sCap cur 3 (zs.map (.int .i64)) uInts sizeInt1 hg (by rw [List.length_map]; exact hzl) hsrc (by rw [hcs,List.length_map]; omega) (ints_oneCell _ _)
   rw [show goInt (zs.map (Value.int .i64)).length=.int .i64 zs.length by rw [List.length_map]; rfl] at hr
   have hst:w.grownBy (w.setRow g (cur.toList.take off++zs.map (Value.int .i64)++cur.toList.drop (off+(zs.map (Value.int .i64)).length)).toArray) (some g) :=
    ⟨rfl,rfl,rfl,by simp,fun k _ hk=>setRow_other w g k _ (fun e=>hk (by simp [e]))⟩
   refine ⟨_,hr,?_,(Below.refl _ _).grown hst (by have:=(Array.getElem?_eq_some_iff.1 hg).1; omega) (by intro k hk; simp at hk; omega)⟩
   have hlen:(xs.take off++zs++xs.drop (off+zs.length)).length=xs.length:=by simp; omega
   refine ⟨by simp,.inr ⟨g,cap,_,by rw [hlen],hb,setRow_heap w g cur _ _ _ hg,by rw [hlen]; exact hn,hm,?_,?_⟩⟩
   ·simp only [List.size_toArray,List.length_append,List.length_take,List.length_drop,List.length_map,hcl]; omega
   ·rw [hlen]
    have e:=splice_take cur.toList (zs.map (Value.int .i64)) off xs.length (by rw [List.length_map]; omega) (by omega)
    rw [Nat.mul_one] at ht ⊢
    rw [e,ht]
    simp [List.map_take,List.map_drop]
def reps (x:Int) (m n:Nat):List Int:=List.replicate m x++List.replicate (n-m) 0
theorem reps_len (x:Int) {m n:Nat} (h:m≤n):(reps x m n).length=n:=by simp [reps]; omega
theorem reps_full (x:Int) (n:Nat):reps x n n=List.replicate n x:=by simp [reps]
theorem reps_splice (x:Int) {m n k:Nat} (hk:m+k≤n):(reps x m n).take m++List.replicate k x++(reps x m n).drop (m+k)=reps x (m+k) n:=by
 unfold reps
 rw [List.take_left' (by simp),List.drop_append,List.drop_eq_nil_of_le (by simp),List.nil_append,List.length_replicate,List.drop_replicate,List.replicate_append_replicate]
 congr 2
 omega
theorem mul_any (x y:Nat) (hx:x<100000) (hy:y<100000) (w:World) :
 Calls Tryz.prog 110 #[.int .u64 x,.int .u64 y] w fun e w'=>e=.returned (.tuple #[.int .u64 0,.int .u64 ((x*y:Nat):Int)])∧w=w':=by
 refine (Any.bits_Mul Tryz.laysMul x y (by omega) (by omega) w).mono ?_
 rintro e w' ⟨rfl,rfl⟩
 have h:x*y<10000000000:=by
  calc x*y≤99999*99999:=Nat.mul_le_mul (by omega) (by omega)
   _<_:=by decide
 rw [Nat.div_eq_of_lt (by omega),Nat.mod_eq_of_lt (by omega)]
 exact ⟨rfl,rfl⟩
theorem repeat_any (v:Value) (x:Int) (n:Nat) (w:World) (h:IntsAt w v [x]) (hn:n≤10000) :
 Calls Tryz.prog 57 #[v,.int .i64 n] w (Ret1 (fun u w'=>OwnI w.heap.size w' u (List.replicate n x)) w):=by
 have hl:=h.len
 obtain ⟨u,w1,hmk,hu,hb1⟩:=run_makeI (n:Int) n w rfl (by omega)
 have hM:=mul_any 1 n (by omega) (by omega) w
 rw [Nat.one_mul] at hM
 replace hM:=Hd hM
 obtain ⟨ua,un,uc,rfl⟩:=hu.at.shape
 go_enter Tryz.func57,Tryz.ntmps57
 have hcp:∃ w2,(Builtin.copy_ #[22,22] 3 #[.slice ua un uc,v]).run Tryz.prog w1=.ok (.int .i64 ((min 1 n:Nat):Int)) w2∧OwnI w.heap.size w2 (.slice ua un uc) (reps x (min 1 n) n)∧Below w.heap.size w1 w2:=by
  have hun:un=n:=by
   obtain ⟨a,c,e,_⟩:=hu.at
   injection e with _ e _
   rw [e]; simp
  have hv:=h.below hb1
  by_cases h0:n=0
  ·subst h0; subst hun
   obtain ⟨sp,sc,rfl,_⟩:=hv
   refine ⟨w1,run_copy_none (P:=Tryz.prog) w1 22 22 3 3 ua sp 0 uc 1 sc uInts sizeInt1 (by simp),?_,Below.refl _ _⟩
   simpa [reps] using hu
  ·subst hun
   have hva:ua=some (valAt (.slice ua un uc) 0):=by
    rcases hu.2 with ⟨e,hn0⟩ | ⟨g,cap,cur,e,_⟩
    ·rw [List.length_replicate] at hn0; exact absurd hn0 h0
    ·injection e with e1 e2 e3
     subst e1; rfl
   obtain ⟨w2,h1,h2,h3⟩:=run_copyMin (ys:=[x]) 0 3 ua un uc hu hv rfl (by rw [List.length_replicate]; omega) (by omega) (by simp) hva
   have ht:([x]:List Int).take un=[x]:=List.take_of_length_le (by show 1≤un; omega)
   rw [ht] at h1 h2
   refine ⟨w2,?_,?_,h3⟩
   ·rw [h1,Nat.min_eq_left (by omega)]; rfl
   ·rw [Nat.min_eq_left (by omega)]
    have e:=reps_splice x (m:=0) (n:=un) (k:=1) (by omega)
    have e2:reps x 0 un=List.replicate un 0:=by simp [reps]
    rw [e2] at e
    rw [← e]
    exact h2
 obtain ⟨w2,hcp,ho2,hb2⟩:=hcp
 replace hu:=Hd hu
 replace ho2:=Hd ho2
 have hb:=Hd (hb1.trans hb2)
 go_wp2_with fail
 refine hM.out.mono ?_
 rintro e w' ⟨rfl,rfl⟩
 go_wp2_with fail
 go_loopw [8] (fun mv wr=>∃ m:Nat,min 1 n≤m∧m≤n∧mv=.int .i64 m∧OwnI w.heap.size wr (.slice ua un uc) (reps x m n)∧Below w.heap.size w wr) (fun mv _=>n-(intOf mv).toNat)
 case atStart=>exact ⟨min 1 n,Nat.le_refl _,Nat.min_le_right _ _,rfl,ho2.out,hb.out⟩
 case round =>
  obtain ⟨m,hm1,hm2,rfl,ho,hbr⟩:=hrel
  obtain ⟨wo,rfl⟩:∃ wo:World,wo=wr:=⟨_,rfl⟩
  have hl2:=ho.at.len
  rw [reps_len x hm2] at hl2
  by_cases hlt:m<n
  ·have hm0:1≤m:=by omega
   obtain ⟨g,cap,cur,e,hgB,_,hnc,_⟩:∃ g cap cur,Value.slice ua un uc=.slice (some ⟨g,0,none⟩) (reps x m n).length cap∧w.heap.size≤g∧wo.heap[g]?=some (.cells cur 3 (0,0))∧(reps x m n).length≤cap∧True:=by
    rcases ho.2 with ⟨_,hn0⟩ | ⟨g,cap,cur,e,h1,h2,h3,_⟩
    ·rw [reps_len x hm2] at hn0; omega
    ·exact ⟨g,cap,cur,e,h1,h2,h3,trivial⟩
   rw [reps_len x hm2] at e hnc
   injection e with e1 e2 e3
   subst e1; subst e2; subst e3
   have hfull:=Hd hu
   clear hfull hu ho2 hcp hmk
   have hu2:=ho.at.pre m (by rw [reps_len x hm2]; exact hm2)
   have htk:(reps x m un).take m=List.replicate m x:=by unfold reps; exact List.take_left' (by simp)
   rw [htk] at hu2
   obtain ⟨k,hk⟩:∃ k,k=((List.replicate m x).take (un-m)).length:=⟨_,rfl⟩
   have hkk:k=min (un-m) m:=by rw [hk]; simp
   have hkr:(List.replicate m x).take (un-m)=List.replicate k x:=by rw [hkk,List.take_replicate]
   have hcp:∀ W:World,OwnI w.heap.size W (.slice (some ⟨g,0,none⟩) un uc) (reps x m un)→IntsAt W (.slice (some ⟨g,0,none⟩) m uc) (List.replicate m x)→∃ w2,(Builtin.copy_ #[22,22] 3 #[.slice (some ⟨g,m,none⟩) (un-m) (uc-m),.slice (some ⟨g,0,none⟩) m uc]).run Tryz.prog W=.ok (.int .i64 (k:Int)) w2∧OwnI w.heap.size w2 (.slice (some ⟨g,0,none⟩) un uc) (reps x (m+k) un)∧Below w.heap.size W w2:=by
    intro W hW hW2
    obtain ⟨w2,a,b,c⟩:=run_copyMin m 3 (some ⟨g,m,none⟩) (un-m) (uc-m) hW hW2 rfl (by rw [reps_len x hm2]; omega) (by omega) (by rw [List.length_replicate]; omega) (by rw [valAt_row])
    rw [← hk] at a b
    rw [hkr,reps_splice x (by omega)] at b
    exact ⟨w2,a,b,c⟩
   obtain ⟨w3,hc3,ho3,hb3⟩:=hcp wo.drew ho hu2
   have hwr:IntKind.i64.wrap ((m:Int)+(k:Int))=(m:Int)+k:=wrapK (by omega) (by omega)
   have hb4:Below w.heap.size w w3:=hbr.drew.trans hb3
   have hk1:1≤k:=by omega
   have hk2:m+k≤un:=by omega
   have hsl1:(0≤(m:Int)∧(m:Int)≤(un:Int)):=⟨by omega,by omega⟩
   have hsl2:(0≤(m:Int)∧(m:Int)≤(uc:Int)):=⟨by omega,by omega⟩
   have hmc:¬ uc=m:=by omega
   replace ho3:=Hd ho3
   replace ho:=Hd ho
   clear hcp hu2 htk hk hkr hkk
   go_upto_region 9 with fail
   refine wp_region_plan (fun _=>True) 9 [(0,true),(1,true),(2,true),(3,true),(4,true),(5,true),(6,true),(7,false),(8,true)] (by kernel_rfl) (by kernel_rfl) ?_
   have hS:=trivial
   refine pqY 38 hS ?_
   refine pqY 39 hS ?_
   refine pqY 40 hS ?_
   refine pqY 41 hS ?_
   refine pqY 42 hS ?_
   refine pqY 43 hS ?_
   refine pqY 44 hS ?_
   refine headC rfl (fun KK hK=>?_)
   -- CALL 7 slot (some 45)
   go_simp
   refine hK _ _ hS ?_
   clear hK KK
   refine pqY 46 hS ?_
   refine head0 ?_
   simp only [List.drop_succ_cons,List.drop_zero]
   go_wp2
   refine NoPanic.normal ?_
   go_wp2
   go_round
   case measure=>simp [intOf]; omega
   case rel=>exact ⟨m+k,by omega,hk2,by go_num,ho3.out,hb4⟩
  ·obtain rfl:m=n:=by omega
   rw [reps_full] at ho
   replace ho:=Hd ho
   go_wp2
   go_ret
   exact ⟨_,rfl,hbr,ho.out⟩
end Go.Proofs.YtkaoebokbfcmhaaGreatDoor
namespace Go.Proofs.YtkaoebokbfcmhaaGreatDoor
open Go.RowKit
set_option maxRecDepth 100000
def castI (l:List Nat):List Int:=l.map fun (x:Nat)=>(x:Int)
theorem castI_len (l:List Nat):(castI l).length=l.length:=by simp [castI]
theorem castI_snoc (l:List Nat) (x:Nat):castI (l++[x])=castI l++[(x:Int)]:=by simp [castI]
theorem castI_get {l:List Nat} {i x:Nat} (h:l[i]?=some x):(castI l).getD i 0=(x:Int):=by simp [castI,List.getD,h]
theorem castI_reverse (l:List Nat):castI l.reverse=(castI l).reverse:=by simp [castI]
theorem nodup_len:∀ (n:Nat) (l:List Nat),l.Nodup→(∀ x∈l,x<n)→l.length≤n
 | 0,l,_,h=>by
  cases l with
  | nil=>exact Nat.le_refl _
  | cons a l=>have:=h a List.mem_cons_self; omega
 | n+1,l,hn,h=>by
  have hsub:=nodup_len n (l.erase n) (hn.erase n) (fun x hx=>by
   have h1:=h x (List.mem_of_mem_erase hx)
   have h2:x≠n:=fun e=>by subst e; exact (List.Nodup.not_mem_erase hn) hx
   omega)
  have:l.length≤(l.erase n).length+1:=by
   by_cases hm:n∈l
   ·have:=List.length_erase_of_mem hm; omega
   ·rw [List.erase_of_not_mem hm]; omega
  omega
theorem srt_mem (l:List Int) (x:Int):x∈srt l↔x∈l:=by unfold srt; exact (List.mergeSort_perm l _).mem_iff
theorem srt_sorted (l:List Int):(srt l).Pairwise (·≤·):=by
 have:=List.pairwise_mergeSort (le:=fun (x y:Int)=>decide (x≤y)) (fun a b c h1 h2=>by simp at *; omega) (fun a b=>by simp; omega) l
 unfold srt
 exact this.imp (fun h=>by simpa using h)
theorem tabI_neg1 (n:Nat):tabI n (fun _=>-1)=List.replicate n (-1):=by
 unfold tabI; apply List.ext_getElem<;>simp
theorem rowsE (B:Nat) (w:World):Rows B w (fun _=>none):=⟨fun _ _ h=>(by cases h),fun _ _ _ _ h=>(by cases h)⟩
def FirstPost (w:World) (adj:Nat→List Nat) (a b:Nat) (x:Value) (w':World):Prop :=
 (∃ u,IsFirst adj a b u∧OwnI w.heap.size w' x (castI u))∨(¬ Goes adj a b∧x=.slice none 0 0)
structure FN (f:Names) (cv qv:Value) (n:Nat) (came:Nat→Int) (q:List Nat):Prop where
 came:f (1,0)=some (rowI cv (tabI n came))
 queue:f (2,0)=some (rowI qv (castI q))
section
variable {B:Nat} {w:World} {f:Names} {cv qv:Value} {n:Nat} {came:Nat→Int} {q:List Nat}
theorem FN.congr {f':Names} (h:FN f cv qv n came q) (e1:f' (1,0)=f (1,0)) (e2:f' (2,0)=f (2,0)):FN f' cv qv n came q:=⟨e1.trans h.came,e2.trans h.queue⟩
theorem FN.set (h:FN f cv qv n came q) (hr:Rows B w f) (t:Nat) (ht:t<n) (v:Int):∃ f',Rows B (w.setCell (valAt cv t) (.int .i64 v)) f'∧FN f' cv qv n (updN came t v) q∧∀ i,i≠(1,0)→f' i=f i:=by
 have hs:=hr.setI h.came t (by rw [tabI_len]; exact ht) v
 rw [tabI_upd] at hs
 exact ⟨_,hs,⟨upd_same _ _ _,by rw [upd_ne _ _ (by simp)]; exact h.queue⟩,fun i hi=>upd_ne _ _ hi⟩
theorem FN.push (h:FN f cv qv n came q) (hr:Rows B w f) {w1:World} {qv':Value} (t:Nat) (ho:OwnI B w1 qv' (castI q++[(t:Int)]))
 (hal:(roomOf qv'=roomOf qv∧w.grownBy w1 qv.ownBlock)∨(∃ k,qv'.ownBlock=some k∧w.heap.size≤k∧w.grownBy w1 none)):∃ f',Rows B w1 f'∧FN f' cv qv' n came (q++[t])∧∀ i,i≠(2,0)→f' i=f i:=by
 have hO:=hr.ownI h.queue
 have hg:w.grownBy w1 qv.ownBlock:=grown_via (hal.imp (·.2) (fun ⟨_,_,_,q⟩=>q))
 have hob:qv'.ownBlock=qv.ownBlock∨∃ k,qv'.ownBlock=some k∧w.heap.size≤k:=by
  rcases hal with ⟨q,_⟩ | ⟨k,h1,h2,_⟩
  ·obtain ⟨a1,n1,c1,e1⟩:=hO.at.shape
   obtain ⟨a2,n2,c2,e2⟩:=ho.at.shape
   exact .inl (ownBlock_of_room e1 e2 q)
  ·exact .inr ⟨k,h1,h2⟩
 exact ⟨_,hr.grown (r':=rowI qv' (castI q++[(t:Int)])) h.queue hg ho hob,⟨by rw [upd_ne _ _ (by simp)]; exact h.came,by rw [upd_same,castI_snoc]⟩,fun i hi=>upd_ne _ _ hi⟩
end
set_option maxHeartbeats 8000000
theorem lenArr (g K c:Nat) (w:World):(Builtin.len_ #[158] 3 #[.slice (some ⟨g,0,none⟩) K c]).run Tryz.prog w=.ok (.int .i64 K) w:=by
 rw [run_len_slice _ _ _ _ _ _ (by kernel_rfl)]; rfl
theorem idxArr (g K c s:Nat) (hs:s<K) (w:World):(Instr.indexAt 158 (.slice (some ⟨g,0,none⟩) K c) (.int .i64 s)).run Tryz.prog w=.ok (.pointer (some ⟨g,s*2,none⟩)) w:=by
 have e:Tryz.prog.elem 158=160:=by kernel_rfl
 have hz:∀ w:World,(sizeOf 160).run Tryz.prog w=.ok 2 w:=fun w=>by kernel_rfl
 rw [run_indexAt_slice _ _ _ _ _ _ _ (by rw [e]; kernel_rfl),if_pos (by omega),e,hz]
 simp only [Result.andThen,Addr.add,Int.toNat_natCast]
 by_cases e:s*2=0
 ·rw [if_pos e]
  simp only [e]
 ·rw [if_neg e]
  simp
def pairTo (K N:Nat) (T:List Int) (k p:Nat):List Int:=if p<k then castI (pairL K N T p) else []
theorem pairTo_zero (K N:Nat) (T:List Int):pairTo K N T 0=fun _=>[]:=by funext p; unfold pairTo; rw [if_neg (by omega)]
theorem pairTo_step (K N:Nat) (T:List Int) (k:Nat):updN (pairTo K N T k) k (castI (pairL K N T k))=pairTo K N T (k+1):=by
 funext p
 unfold pairTo
 by_cases e:p=k
 ·subst e; rw [updN_same,if_pos (by omega)]
 ·rw [updN_other _ _ _ e]
  by_cases h:p<k
  ·rw [if_pos h,if_pos (by omega)]
  ·rw [if_neg h,if_neg (by omega)]
def pairG (K N:Nat) (T:List Int):List (List Int):=rowsOf (N*N) fun p=>castI (pairL K N T p)
theorem cell_grown {w w':World} {row:Option Nat} {p:Addr} {v:Value} (hg:w.grownBy w' row) (h:w.cell? p=some v) (hne:row≠some p.block):w'.cell? p=some v :=
 (World.cell?_of_block (hg.block _ (World.block_lt_of_cell? _ _ h) (fun e=>hne e.symm))).trans h
theorem Rows.monoB {B B':Nat} {w:World} {f:Names} (h:Rows B w f) (hB:B'≤B):Rows B' w f :=
 ⟨fun i r hi=>by
   have ho:=h.1 i r hi
   refine ⟨ho.1,?_⟩
   rcases ho.2 with h2 | ⟨g,cap,cur,e,hb,r⟩
   ·exact .inl h2
   ·exact .inr ⟨g,cap,cur,e,Nat.le_trans hB hb,r⟩,h.2⟩
theorem pgraph_ok (r:Nat→Addr) (K R:Nat) (va:Option Addr) (vn vc:Nat) (T:List Int) (w:World) (hg:Glob r w) (h:IntsAt w (.slice va vn vc) T) (hr:RuleOk K R T) (hl:T.length≤256) :
 Calls Tryz.prog 51 #[.agg #[.int .i64 K,.int .i64 R,.slice va vn vc]] w (Ret2 (fun x y w'=>y=.nilIface∧∃ f vals,Rows w.heap.size w' f∧WN f x vals (pw K (2*wkR R)*pw K (2*wkR R)) (fun p=>castI (pairL K (pw K (2*wkR R)) (wkT K R T) p))) w):=by
 have b0:=belowAlloc w (.cells #[.int .i64 K,.int .i64 R,.slice va vn vc] 24)
 have q:Box3 (w.alloc (.cells #[.int .i64 K,.int .i64 R,.slice va vn vc] 24)) w.heap.size (.int .i64 K) (.int .i64 R) (.slice va vn vc):=by simp [Box3,go_sem]
 have hk1:=hr.k1
 have hk4:=hr.k4
 have hokW:=wk_ok hr
 have hlW:=wk_small hr hl
 have hRW:=wk_pos R
 have hN81:=nodes_le hokW hRW hlW
 obtain ⟨hdiv,hlen⟩:=hokW.half
 have hN1:=pw_pos (K:=K) (2*wkR R) hk1
 have hwork:=fun (w':World) (hgl:Glob r w') (hT:IntsAt w' (.slice va vn vc) T)=>working_ok r K R va vn vc T w' hgl hT hr hl
 have harr:=fun (a:Option Addr) (n c:Nat) (w':World) (hgl:Glob r w') (hT:IntsAt w' (.slice a n c) (wkT K R T))=>arrows_any r K (wkR R) a n c (wkT K R T) w' hgl hT hokW hlW
 rw [hdiv] at harr
 generalize pw K (2*wkR R)=N at *
 generalize wkT K R T=T' at *
 generalize wkR R=R' at *
 replace hwork:=Hd hwork
 replace harr:=Hd harr
 replace hg:=Hd (hg.below b0)
 replace h:=Hd (h.below b0)
 replace hokW:=Hd hokW
 replace hr:=Hd hr
 replace hdiv:=Hd hdiv
 replace hlen:=Hd hlen
 go_enter Tryz.func51,Tryz.ntmps51
 go_wp2_with fail
 refine (hwork.out _ hg.out h.out).mono ?_
 rintro e w1 ⟨x,y,rfl,b1,rfl,a,n,c,rfl,hT1⟩
 have b01:=Below.step b0 b1
 have ba:=belowAlloc w1 (.cells #[.int .i64 K,.int .i64 R',.slice a n c] 24)
 have q1:Box3 (w1.alloc (.cells #[.int .i64 K,.int .i64 R',.slice a n c] 24)) w1.heap.size (.int .i64 K) (.int .i64 R') (.slice a n c):=by simp [Box3,go_sem]
 have b02:=Below.step b01 ba
 have b12:=Below.step b1 ba
 have hT2:=hT1.below ba
 clear q
 replace hT1:=Hd hT1
 replace hT2:=Hd hT2
 go_wp2_with fail
 refine (harr.out a n c _ (hg.out.below b12) hT2.out).mono ?_
 rintro e w3 ⟨lv,rfl,b3,hA⟩
 have b03:=Below.step b02 b3
 clear q1
 obtain ⟨vs,hvs,hvl,hrows⟩:=hA
 obtain ⟨la,ln,lc,rfl⟩:=hvs.shape
 have ll:=fun w'=>hvs.len oneArrows 3 w'
 rw [hvl] at ll
 have hNN:(N:Int)*(N:Int)=((N*N:Nat):Int):=by simp
 have hM6:N*N≤6561:=Nat.mul_le_mul hN81 hN81
 have hNz1:¬ (N:Int)=0:=by omega
 have hNz2:((N:Int)==0)=false:=by rw [beq_eq_false_iff_ne]; omega
 have hNz3:(0:Int)<N:=by omega
 have hNz4:¬ N=0:=by omega
 obtain ⟨M,hM⟩:∃ M,N*N=M:=⟨_,rfl⟩
 rw [hM] at hNN hM6
 have hwM:IntKind.i64.wrap (M:Int)=M:=wrapK (by omega) (by omega)
 obtain ⟨ov,w4,mk,ho,hb4⟩:=run_makeW oneLists (M:Int) M w3 rfl (by omega)
 obtain ⟨f1,hr1,h1⟩:=WN.made M hb4 (Nat.le_refl _) ho
 obtain ⟨oa,on,oc,rfl⟩:=ho.shape
 have lo:=fun w'=>(ho.at).len oneLists 3 w'
 rw [List.length_replicate] at lo
 rw [← pairTo_zero K N T'] at h1
 replace hvs:=Hd hvs
 replace hrows:=Hd hrows
 replace hr1:=Hd hr1
 replace ho:=Hd ho
 replace hM:=Hd hM
 go_wp2_with fail
 clear mk lo ll
 go_loopw [33] (fun kv wr=>∃ (k:Nat) (f:Names) (vals:List Value),k≤M∧kv=.int .i64 k∧Rows w3.heap.size wr f∧Below w3.heap.size w3 wr∧WN f (.slice oa on oc) vals M (pairTo K N T' k)) (fun kv _=>M-(intOf kv).toNat)
 case atStart=>exact ⟨0,f1,_,by omega,rfl,hr1.out,hb4,h1⟩
 case round =>
  clear h1 ho hr1 hb4
  obtain ⟨k,f2,vals,hk,rfl,hr2,b2,h2⟩:=hrel
  obtain ⟨wo,rfl⟩:∃ wo:World,wo=wr:=⟨_,rfl⟩
  by_cases hlt:k<M
  ·obtain ⟨u,hu⟩:∃ u,k/N=u:=⟨_,rfl⟩
   obtain ⟨v,hv⟩:∃ v,k%N=v:=⟨_,rfl⟩
   have hun:u<N:=by rw [← hu]; exact div_lt_of (by rw [hM.out]; exact hlt)
   have hvn:v<N:=by rw [← hv]; exact Nat.mod_lt _ (by omega)
   have hqu:(k:Int)/(N:Int)=(u:Int):=by rw [← hu]; simp
   have hqv:(k:Int)%(N:Int)=(v:Int):=by rw [← hv]; simp
   have hqu2:(k:Int).tdiv (N:Int)=(u:Int):=by rw [Int.tdiv_eq_ediv_of_nonneg (by omega)]; exact hqu
   have hqv2:(k:Int).tmod (N:Int)=(v:Int):=by rw [Int.tmod_eq_emod_of_nonneg (by omega)]; exact hqv
   have hwu:IntKind.i64.wrap (u:Int)=u:=wrapK (by omega) (by omega)
   have hwv:IntKind.i64.wrap (v:Int)=v:=wrapK (by omega) (by omega)
   obtain ⟨gu,cu,eu,hcu,hcellU⟩:=hrows.out u hun
   obtain ⟨gv,cv,ev,hcv,hcellV⟩:=hrows.out v hvn
   have iU:=fun w'=>hvs.out.idx oneArrows u (by omega) w'
   have iV:=fun w'=>hvs.out.idx oneArrows v (by omega) w'
   have cU3:=hvs.out.cellV u (by omega)
   have cV3:=hvs.out.cellV v (by omega)
   rw [eu] at cU3
   rw [ev] at cV3
   have cU:=(b2.cell (World.block_lt_of_cell? _ _ cU3)).trans cU3
   generalize valAt (.slice la ln lc) u=ua at *
   have lenU:=lenArr gu K cu
   have lenV:=lenArr gv K cv
   have idxU:=fun s (hs:s<K) w'=>idxArr gu K cu s hs w'
   have idxV:=fun s (hs:s<K) w'=>idxArr gv K cv s hs w'
   have hcU:=fun (w':World) (hb:Below w3.heap.size w3 w') s (hs:s<K)=>(⟨cell_keep hb (hcellU s hs).1,cell_keep hb (hcellU s hs).2⟩:w'.cell? ⟨gu,s*2,none⟩=some (.int .i64 (toN K N u s))∧w'.cell? ⟨gu,s*2+1,none⟩=some (.int .i64 (labN K T' u s)))
   have hcV:=fun (w':World) (hb:Below w3.heap.size w3 w') s (hs:s<K)=>(⟨cell_keep hb (hcellV s hs).1,cell_keep hb (hcellV s hs).2⟩:w'.cell? ⟨gv,s*2,none⟩=some (.int .i64 (toN K N v s))∧w'.cell? ⟨gv,s*2+1,none⟩=some (.int .i64 (labN K T' v s)))
   have cVk:=fun (w':World) (hb:Below w3.heap.size w3 w')=>(hb.cell (World.block_lt_of_cell? _ _ cV3)).trans cV3
   generalize valAt (.slice la ln lc) v=va' at *
   replace hcU:=Hd hcU
   replace hcV:=Hd hcV
   replace cVk:=Hd cVk
   replace idxU:=Hd idxU
   replace idxV:=Hd idxV
   replace hcellU:=Hd hcellU
   replace hcellV:=Hd hcellV
   replace hr2:=Hd hr2
   replace hu:=Hd hu
   replace hv:=Hd hv
   replace eu:=Hd eu
   replace ev:=Hd ev
   clear cU3 cV3
   go_wp2_with fail
   clear cU iU
   go_loopw [10,43] (fun tv sv wr=>∃ (s:Nat) (tw:Value),s≤K∧sv=.int .i64 s∧tw=tv∧OwnI wo.heap.size wr tw (castI (rawP K N T' u v s))∧Below wo.heap.size wo wr) (fun _ sv _=>K-(intOf sv).toNat)
   case atStart=>exact ⟨0,_,by omega,rfl,rfl,OwnI.nil _ _,Below.refl _ _⟩
   case round =>
    obtain ⟨s,tv,hs,rfl,rfl,hoT,bT⟩:=hrel
    obtain ⟨wt,rfl⟩:∃ wt:World,wt=wr:=⟨_,rfl⟩
    by_cases hsl:s<K
    ·have b3t:=b2.trans (bT.mono b2.size)
     have iS:=fun w'=>idxU.out s hsl w'
     obtain ⟨cS0,cS1⟩:=hcU.out wt b3t s hsl
     obtain ⟨X,hX⟩:∃ X,toN K N u s=X:=⟨_,rfl⟩
     obtain ⟨Y,hY⟩:∃ Y,labN K T' u s=Y:=⟨_,rfl⟩
     rw [hX] at cS0
     rw [hY] at cS1
     have hXN:X<N:=by rw [← hX]; exact toN_lt (by omega)
     have bA:=belowAlloc wt (.cells #[.int .i64 X,.int .i64 Y] 160)
     have bTA:=bT.trans (bA.mono bT.size)
     have b3A:=b3t.trans (bA.mono b3t.size)
     have cA0:(wt.alloc (.cells #[.int .i64 X,.int .i64 Y] 160)).cell? ⟨wt.heap.size,0,none⟩=some (.int .i64 X):=by simp [go_sem]
     have cA1:(wt.alloc (.cells #[.int .i64 X,.int .i64 Y] 160)).cell? ⟨wt.heap.size,1,none⟩=some (.int .i64 Y):=by simp [go_sem]
     have cV:=cVk.out _ b3A
     have hoA:=hoT.below bA
     have hneT:tv.ownBlock≠some wt.heap.size:=fun e=>by have:=(hoT.lt _ e).2; omega
     replace hoT:=Hd hoT
     replace hoA:=Hd hoA
     replace hX:=Hd hX
     replace hY:=Hd hY
     replace cA0:=Hd cA0
     replace cA1:=Hd cA1
     go_wp2_with fail
     obtain ⟨wa,hwa⟩:∃ wa:World,wa=wt.alloc (.cells #[.int .i64 X,.int .i64 Y] 160):=⟨_,rfl⟩
     rw [← hwa] at bA bTA b3A cA0 cA1 cV hoA ⊢
     replace hwa:=Hd hwa
     go_loopw [10,54] (fun tv' jv wr=>∃ (j:Nat) (tw:Value),j≤K∧jv=.int .i64 j∧tw=tv'∧OwnI wo.heap.size wr tw (castI (rawP K N T' u v s++rawS K N T' u v s j))∧Below wo.heap.size wo wr∧tw.ownBlock≠some wt.heap.size∧wr.cell? ⟨wt.heap.size,0,none⟩=some (.int .i64 X)∧wr.cell? ⟨wt.heap.size,1,none⟩=some (.int .i64 Y)) (fun _ jv _=>K-(intOf jv).toNat)
     case atStart=>exact ⟨0,_,by omega,rfl,rfl,by simpa [rawS] using hoA.out,bTA,hneT,cA0.out,cA1.out⟩
     case round =>
      obtain ⟨j,tj,hj,rfl,rfl,hoJ,bJ,hne,y0,y1⟩:=hrel
      obtain ⟨wj,rfl⟩:∃ wj:World,wj=wr:=⟨_,rfl⟩
      by_cases hjl:j<K
      ·have b3j:=b2.trans (bJ.mono b2.size)
       have iJ:=fun w'=>idxV.out j hjl w'
       obtain ⟨cJ0,cJ1⟩:=hcV.out wj b3j j hjl
       obtain ⟨X2,hX2⟩:∃ X,toN K N v j=X:=⟨_,rfl⟩
       obtain ⟨Y2,hY2⟩:∃ Y,labN K T' v j=Y:=⟨_,rfl⟩
       rw [hX2] at cJ0
       rw [hY2] at cJ1
       have hXN2:X2<N:=by rw [← hX2]; exact toN_lt (by omega)
       have bA2:=belowAlloc wj (.cells #[.int .i64 X2,.int .i64 Y2] 160)
       have y0':=cell_keep bA2 y0
       have y1':=cell_keep bA2 y1
       have bJA:=bJ.trans (bA2.mono bJ.size)
       have hoJA:=hoJ.below bA2
       have hsz:=bJA.size
       have hwt:wt.heap.size<wj.heap.size:=World.block_lt_of_cell? _ _ y0
       have hlenJ:(castI (rawP K N T' u v s++rawS K N T' u v s j)).length≤100:=by
        rw [castI_len,List.length_append]
        have e1:=rawP_len K N T' u v s
        have e2:=rawS_len K N T' u v s j
        have e3:=Nat.mul_le_mul hs hk4
        omega
       replace hoJ:=Hd hoJ
       replace hX2:=Hd hX2
       replace hY2:=Hd hY2
       have cB0:(wj.alloc (.cells #[.int .i64 X2,.int .i64 Y2] 160)).cell? ⟨wj.heap.size,0,none⟩=some (.int .i64 X2):=by simp [go_sem]
       have cB1:(wj.alloc (.cells #[.int .i64 X2,.int .i64 Y2] 160)).cell? ⟨wj.heap.size,1,none⟩=some (.int .i64 Y2):=by simp [go_sem]
       go_upto_region 17 with fail
       obtain ⟨wb,hwb⟩:∃ wb:World,wb=wj.alloc (.cells #[.int .i64 X2,.int .i64 Y2] 160):=⟨_,rfl⟩
       rw [← hwb] at bA2 y0' y1' bJA hoJA hsz cB0 cB1 ⊢
       have hszb:wj.heap.size<wb.heap.size:=World.block_lt_of_cell? _ _ cB0
       replace hszb:=Hd hszb
       replace hwb:=Hd hwb
       by_cases hYY:Y=Y2
       ·have hYq:(Y==Y2)=true:=by rw [beq_iff_eq]; exact hYY
        have hraw:rawS K N T' u v s (j+1)=rawS K N T' u v s j++[X*N+X2]:=by
         rw [rawS_succ]; unfold rawT
         rw [hY.out,hY2.out,hX.out,hX2.out,if_pos hYY]
        obtain ⟨m,hm⟩:∃ m,X*N=m:=⟨_,rfl⟩
        have hm1:(X:Int)*(N:Int)=(m:Int):=by rw [← hm]; simp
        have hml:m≤6561:=by rw [← hm]; exact Nat.le_trans (Nat.mul_le_mul (show X≤81 by omega) hN81) (by decide)
        have hwm:IntKind.i64.wrap (m:Int)=m:=wrapK (by omega) (by omega)
        have hsum:(m:Int)+(X2:Int)=((m+X2:Nat):Int):=by simp
        rw [hm] at hraw
        obtain ⟨z,hz⟩:∃ z,m+X2=z:=⟨_,rfl⟩
        rw [hz] at hsum hraw
        have hzl:z≤7000:=by omega
        have hwz:IntKind.i64.wrap (z:Int)=z:=wrapK (by omega) (by omega)
        replace hraw:=Hd hraw
        replace hm:=Hd hm
        replace hz:=Hd hz
        replace hYY:=Hd hYY
        go_wp2_with (at_builtin; go_loud (refine wpl_app1 rfl _ _ rfl wo.heap.size tj _ z hoJA rfl rfl (by omega) hsz ?_))
        intro v' w7 ho7 b7 hal
        have hne':v'.ownBlock≠some wt.heap.size:=by
         rcases hal with ⟨q1,_⟩ | ⟨m,q1,q2,_⟩
         ·rw [ownBlock_eq hoJA ho7 q1]; exact hne
         ·rw [q1]; intro e; injection e with e; have:=hszb.out; omega
        have y07:w7.cell? ⟨wt.heap.size,0,none⟩=some (.int .i64 X)∧w7.cell? ⟨wt.heap.size,1,none⟩=some (.int .i64 Y):=by
         rcases hal with ⟨_,q2⟩ | ⟨_,_,_,q2⟩
         ·exact ⟨cell_grown q2 y0' hne,cell_grown q2 y1' hne⟩
         ·exact ⟨cell_grown q2 y0' (by simp),cell_grown q2 y1' (by simp)⟩
        obtain ⟨ta,tn,tc,rfl⟩:=ho7.at.shape
        replace ho7:=Hd ho7
        replace y07:=Hd y07
        clear hal
        go_wp2
        go_roundw
        case measure=>simp [intOf]; omega
        case rel=>exact ⟨j+1,_,by omega,by go_num,rfl,by rw [hraw.out,← List.append_assoc,castI_snoc]; exact ho7.out,bJA.trans b7,hne',y07.out.1,y07.out.2⟩
       ·have hYq:(Y==Y2)=false:=by rw [beq_eq_false_iff_ne]; exact hYY
        have hraw:rawS K N T' u v s (j+1)=rawS K N T' u v s j:=by
         rw [rawS_succ]; unfold rawT
         rw [hY.out,hY2.out,if_neg hYY,List.append_nil]
        replace hraw:=Hd hraw
        replace hoJA:=Hd hoJA
        replace hYY:=Hd hYY
        go_wp2
        go_roundw
        case measure=>simp [intOf]; omega
        case rel=>exact ⟨j+1,_,by omega,by go_num,rfl,by rw [hraw.out]; exact hoJA.out,bJA,hne,y0',y1'⟩
      ·obtain rfl:j=K:=by omega
       rw [← rawP_succ] at hoJ
       replace hoJ:=Hd hoJ
       go_wp2
       go_roundw
       case measure=>simp [intOf]; omega
       case rel=>exact ⟨s+1,_,by omega,by go_num,rfl,hoJ.out,bJ⟩
    ·obtain rfl:s=K:=by omega
     have hlT:(castI (rawP s N T' u v s)).length≤17592186044416:=by
      rw [castI_len]
      have e1:=rawP_len s N T' u v s
      have e3:=Nat.mul_le_mul hk4 hk4
      omega
     have hsz:=bT.size
     replace hoT:=Hd hoT
     go_wp2_with fail
     refine (sort_own wo.heap.size tv _ wt hoT.out hlT hsz).mono ?_
     rintro e w8 ⟨rfl,ho8,b8⟩
     have bT8:=bT.trans b8
     replace ho8:=Hd ho8
     go_wp2_with fail
     refine (compact_own wo.heap.size tv _ w8 ho8.out (by rw [srt_length]; omega)).mono ?_
     rintro e w9 ⟨x,rfl,_,ho9,b9⟩
     have bT9:=bT8.trans b9
     have hded:ded (srt (castI (rawP s N T' u v s))) (srt (castI (rawP s N T' u v s))).length=castI (pairL s N T' k):=by
      refine ded_pair (by omega) (srt_sorted _) (fun x=>?_)
      rw [srt_mem,hu.out,hv.out]; rfl
     rw [hded] at ho9
     have hnew:=h2.new hr2.out k bT9 b2.size ho9
     obtain ⟨y1,y2,y3,f8,hr8,h8,_⟩:=h2.put hlt hnew
     rw [pairTo_step] at h8
     have iO:=fun w'=>((hr2.out.ownV h2.outer).at).idx oneLists k (by rw [h2.len]; exact hlt) w'
     generalize valAt (.slice oa on oc) k=ka at *
     obtain ⟨xa,xn,xc,rfl⟩:=ho9.at.shape
     have b39:=b2.trans (bT9.mono b2.size)
     replace hr8:=Hd hr8
     replace ho9:=Hd ho9
     replace hded:=Hd hded
     replace hnew:=Hd hnew
     go_wp2
     go_roundw
     case measure=>simp [intOf]; omega
     case rel=>exact ⟨k+1,f8,_,by omega,by go_num,hr8.out,b39.setCell y3 _,h8⟩
  ·obtain rfl:k=M:=by omega
   have hR:=hr2.monoB (Nat.le_trans b03.size (Nat.le_refl _))
   have hW:WN f2 (.slice oa on oc) vals (N*N) (fun p=>castI (pairL K N T' p)):=by
    rw [hM.out]
    exact ⟨h2.outer,h2.len,fun u hu=>by rw [h2.rows u hu]; unfold pairTo; rw [if_pos hu]⟩
   have bE:=Below.step b03 b2
   replace hR:=Hd hR
   replace hr2:=Hd hr2
   go_wp2
   go_ret2
   exact ⟨_,_,rfl,bE,rfl,_,_,hR.out,hW⟩
end Go.Proofs.YtkaoebokbfcmhaaGreatDoor
namespace Go.Proofs.YtkaoebokbfcmhaaGreatDoor
open Go.RowKit Go.Shelf Go.Sort
set_option maxRecDepth 100000
end Go.Proofs.YtkaoebokbfcmhaaGreatDoor
namespace Go.Proofs.YtkaoebokbfcmhaaGreatDoor
open Go.RowKit
set_option maxRecDepth 100000
end Go.Proofs.YtkaoebokbfcmhaaGreatDoor
namespace Go.Proofs.YtkaoebokbfcmhaaGreatDoor
open Go.RowKit Go.Maps
set_option maxRecDepth 100000
theorem uIntN:Tryz.prog.underlying 3=some (.int .i64):=by kernel_rfl
theorem uMapN:Tryz.prog.underlying 218=some (.map 3 3):=by kernel_rfl
theorem keyedN:Keyed Tryz.prog 3:=int_keyed uIntN
theorem zeroN (w:World):(zeroValue 3).run Tryz.prog w=.ok (.int .i64 0) w:=by kernel_rfl
def NumMap (w:World) (b n:Nat) (M:Int→Option Int) (s:Nat):Prop :=
 ∃ D:DataW Unit,w.ownsMap Tryz.prog 3 (plainElem Tryz.prog 3) b n D∧Maps.size D=s ∧
  ∀ k,(Lit.int .i64 k).wf=true→Maps.has D (.int .i64 k)=(M k).isSome∧∀ x,M k=some x→D.atKey (.int .i64 k) (.lit (.int .i64 0))=.lit (.int .i64 x)
theorem NumMap.made (w:World):NumMap (w.alloc (.map #[] 0)) w.heap.size 0 (fun _=>none) 0 :=
 ⟨_,World.ownsMap_made w Tryz.prog 3 _,rfl,fun k _=>⟨rfl,fun x h=>by cases h⟩⟩
theorem NumMap.blk {w:World} {b n s:Nat} {M:Int→Option Int} (h:NumMap w b n M s):∃ es c,w.heap[b]?=some (.map es c):=by
 obtain ⟨D,⟨es,c,hb,_⟩,_⟩:=h
 exact ⟨es,c,hb⟩
theorem NumMap.kept {w w':World} {b n s:Nat} {M:Int→Option Int} {row:Option Nat} (h:NumMap w b n M s) (hg:w.grownBy w' row) (hne:some b≠row):NumMap w' b n M s:=by
 obtain ⟨D,h1,h2⟩:=h
 exact ⟨D,h1.kept hg hne,h2⟩
theorem NumMap.drew {w:World} {b n s:Nat} {M:Int→Option Int} (h:NumMap w b n M s):NumMap w.drew b n M s:=h
theorem NumMap.drewN {w:World} {b n s:Nat} {M:Int→Option Int} (h:NumMap w b n M s) (q:Nat):NumMap (w.drewN q) b n M s:=h
theorem NumMap.len {w:World} {b n s:Nat} {M:Int→Option Int} (h:NumMap w b n M s) (ty:TypeId):(Builtin.len_ #[218] ty #[.map (some b)]).run Tryz.prog w=.ok (.int .i64 s) w:=by
 obtain ⟨D,h1,rfl,_⟩:=h
 exact h1.len uMapN ty
theorem NumMap.lookOk {w:World} {b n s:Nat} {M:Int→Option Int} (h:NumMap w b n M s) (k:Int) (hk:(Lit.int .i64 k).wf=true) :
 ∃ c:Int,(Instr.lookup 218 (.map (some b)) (.int .i64 k) true).run Tryz.prog w=.ok (.tuple #[.int .i64 c,.bool (M k).isSome]) w:=by
 obtain ⟨D,h1,_,h3⟩:=h
 obtain ⟨v,ps,hr,hv⟩:=h1.look_ok keyedN uMapN (zeroN w) (plainElem_int uIntN (by decide)) (keyOf_int_mk uIntN hk)
 obtain ⟨c,rfl,_,_⟩:=plainElem_int_inv uIntN hv
 exact ⟨c,by rw [hr,(h3 k hk).1]⟩
theorem NumMap.store {w:World} {b n s:Nat} {M:Int→Option Int} (h:NumMap w b n M s) (k x:Int) (hk:(Lit.int .i64 k).wf=true) (hx:(Lit.int .i64 x).wf=true) (hM:M k=none) (hn:n<1000000) :
 ∃ w',(Instr.mapUpdate 218 (.map (some b)) (.int .i64 k) (.int .i64 x)).run Tryz.prog w=.ok () w'∧NumMap w' b (n+1) (updM M k x) (s+1)∧w.grownBy w' (some b):=by
 obtain ⟨D,h1,h2,h3⟩:=h
 have hT:=h1.tidy keyedN
 have hI:=h1.isMap
 obtain ⟨w',hr,ho,hg⟩:=h1.update keyedN uMapN (by unfold maxLen; omega) (keyOf_int_mk uIntN hk) (plainElem_int uIntN hx)
 have hkl:WideAt.IsKeyLit (Lit.int .i64 k):=keyedN.key (keyOf_int_mk uIntN hk)
 refine ⟨w',hr,⟨_,ho,?_,fun q hq=>?_⟩,hg⟩
 ·rw [Maps.size_put hT,(h3 k hk).1,hM,h2]; rfl
 ·by_cases e:q=k
  ·subst e
   refine ⟨by rw [Maps.has_put_same hI hkl]; simp [updM],fun y hy=>?_⟩
   simp [updM] at hy
   subst hy
   exact Maps.atKey_put_same hI hkl _ _
  ·have hne:(Lit.int .i64 q)≠(Lit.int .i64 k):=fun h=>e (by injection h)
   refine ⟨by rw [Maps.has_put_other hne,(h3 q hq).1]; simp [updM,e],fun y hy=>?_⟩
   rw [Maps.atKey_put_other hne]
   exact (h3 q hq).2 y (by simpa [updM,e] using hy)
end Go.Proofs.YtkaoebokbfcmhaaGreatDoor
namespace Go.Proofs.YtkaoebokbfcmhaaGreatDoor
open Go.RowKit
set_option maxRecDepth 100000
def tabB (n:Nat) (m:Nat→Bool):List Value:=(List.range n).map fun v=>Value.bool (m v)
structure RInv (n:Nat) (adj:Nat→List Nat) (ms m:Nat→Bool) (qs:List Nat) (busy:Nat→Prop):Prop where
 start:∀ x,x<n→ms x=true→m x=true
 sound:∀ x,x<n→m x=true→∃ u,u<n∧ms u=true∧Goes adj u x
 queue:∀ x∈qs,x<n∧m x=true
 closed:∀ x,x<n→m x=true→x∉qs→¬ busy x→∀ t∈adj x,m t=true
theorem RInv.all {n:Nat} {adj:Nat→List Nat} {ms m:Nat→Bool} (h:RInv n adj ms m [] (fun _=>False)) (ha:∀ v,v<n→∀ t∈adj v,t<n):∀ x,x<n→(m x=true↔∃ u,u<n∧ms u=true∧Goes adj u x):=by
 intro x hx
 refine ⟨h.sound x hx,fun ⟨u,hu,hs,hg⟩=>?_⟩
 exact (Goes.closed (P:=fun y=>y<n∧m y=true) (fun y hy t ht=>⟨ha y hy.1 t ht,h.closed y hy.1 hy.2 (by simp) id t ht⟩) hg ⟨hu,h.start u hu hs⟩).2
structure RN (f:Names) (ov qv:Value) (n:Nat) (m:Nat→Bool) (qs:List Nat):Prop where
 outs:f (1,0)=some (rowV 4 ov (tabB n m))
 queue:f (2,0)=some (rowI qv (upI qs))
section
variable {B:Nat} {w:World} {f:Names} {ov qv:Value} {n:Nat} {m:Nat→Bool} {qs:List Nat}
theorem RN.push (h:RN f ov qv n m qs) (hr:Rows B w f) {w1:World} {qv':Value} (t:Nat) (ho:OwnI B w1 qv' (upI qs++[(t:Int)]))
 (hal:(roomOf qv'=roomOf qv∧w.grownBy w1 qv.ownBlock)∨(∃ k,qv'.ownBlock=some k∧w.heap.size≤k∧w.grownBy w1 none)):∃ f',Rows B w1 f'∧RN f' ov qv' n m (t::qs):=by
 have hO:=hr.ownI h.queue
 have hg:w.grownBy w1 qv.ownBlock:=grown_via (hal.imp (·.2) (fun ⟨_,_,_,q⟩=>q))
 have hob:qv'.ownBlock=qv.ownBlock∨∃ k,qv'.ownBlock=some k∧w.heap.size≤k:=by
  rcases hal with ⟨q,_⟩ | ⟨k,h1,h2,_⟩
  ·obtain ⟨a1,n1,c1,e1⟩:=hO.at.shape
   obtain ⟨a2,n2,c2,e2⟩:=ho.at.shape
   exact .inl (ownBlock_of_room e1 e2 q)
  ·exact .inr ⟨k,h1,h2⟩
 exact ⟨_,hr.grown (r':=rowI qv' (upI qs++[(t:Int)])) h.queue hg ho hob,⟨by rw [upd_ne _ _ (by simp)]; exact h.outs,by rw [upd_same,upI_cons]⟩⟩
theorem RN.shape {v:Nat} {r:List Nat} (h:RN f ov qv n m (v::r)) (hr:Rows B w f):∃ g c,qv=.slice (some ⟨g,0,none⟩) (r.length+1) c∧r.length+1≤c:=by
 obtain ⟨g,c,e,e2⟩:=row_shape (hr.1 _ _ h.queue) (by show 0<(upI (v::r)).length; rw [upI_len]; simp)
 have e:qv=.slice (some ⟨g,0,none⟩) (upI (v::r)).length c:=e
 have e2:(upI (v::r)).length≤c:=e2
 rw [upI_len,List.length_cons] at e e2
 exact ⟨g,c,e,e2⟩
end
def OnLoop (adj:Nat→List Nat) (u:Nat):Prop:=∃ t∈adj u,Goes adj t u
def IsLive (n:Nat) (adj:Nat→List Nat) (v:Nat):Prop:=(∃ u,u<n∧OnLoop adj u∧Goes adj u v)∧∃ u,u<n∧OnLoop adj u∧Goes adj v u
structure LiveList (n:Nat) (adj:Nat→List Nat) (L:List Nat):Prop where
 sorted:L.Pairwise (·<·)
 mem:∀ v,v∈L↔v<n∧IsLive n adj v
theorem sorted_eq:∀ {L M:List Nat},L.Pairwise (·<·)→M.Pairwise (·<·)→(∀ v,v∈L↔v∈M)→L=M
 | [],[],_,_,_=>rfl
 | [],b::M,_,_,h=>absurd ((h b).2 List.mem_cons_self) (by simp)
 | a::L,[],_,_,h=>absurd ((h a).1 List.mem_cons_self) (by simp)
 | a::L,b::M,hL,hM,h=>by
  obtain ⟨a1,a2⟩:=List.pairwise_cons.1 hL
  obtain ⟨b1,b2⟩:=List.pairwise_cons.1 hM
  have hab:a=b:=by
   rcases List.mem_cons.1 ((h a).1 List.mem_cons_self) with e | e
   ·exact e
   ·rcases List.mem_cons.1 ((h b).2 List.mem_cons_self) with e2 | e2
    ·exact e2.symm
    ·have:=b1 a e; have:=a1 b e2; omega
  subst hab
  rw [sorted_eq a2 b2 fun v=>?_]
  have:=h v
  simp only [List.mem_cons] at this
  constructor
  ·intro hv
   rcases this.1 (.inr hv) with e | e
   ·subst e; exact absurd (a1 v hv) (Nat.lt_irrefl _)
   ·exact e
  ·intro hv
   rcases this.2 (.inr hv) with e | e
   ·subst e; exact absurd (b1 v hv) (Nat.lt_irrefl _)
   ·exact e
theorem LiveList.unique {n:Nat} {adj:Nat→List Nat} {L M:List Nat} (h:LiveList n adj L) (k:LiveList n adj M):L=M:=sorted_eq h.sorted k.sorted fun v=>by rw [h.mem,k.mem]
def LoopTo (G:List (List Int)) (ps:List Int) (k j:Nat) (m:Nat→Bool):Prop :=
 ∀ x,x<G.length→(m x=true↔(x<k∧∃ t∈adjOf G x,ps.getD t 0=ps.getD x 0)∨(x=k∧∃ t∈(adjOf G k).take j,ps.getD t 0=ps.getD k 0))
theorem LoopTo.next {G:List (List Int)} {ps:List Int} {k:Nat} {m:Nat→Bool} (h:LoopTo G ps k (adjOf G k).length m):LoopTo G ps (k+1) 0 m:=by
 intro x hx
 rw [h x hx,List.take_length]
 constructor
 ·rintro (⟨a,b⟩ | ⟨rfl,b⟩)
  ·exact .inl ⟨by omega,b⟩
  ·exact .inl ⟨by omega,b⟩
 ·rintro (⟨a,b⟩ | ⟨_,t,ht,_⟩)
  ·by_cases e:x=k
   ·subst e; exact .inr ⟨rfl,b⟩
   ·exact .inl ⟨by omega,b⟩
  ·simp at ht
theorem LoopTo.add {G:List (List Int)} {ps:List Int} {k j t:Nat} {m:Nat→Bool} (h:LoopTo G ps k j m) (ht:(adjOf G k)[j]?=some t) (m':Nat→Bool)
 (hm:m'=if ps.getD t 0=ps.getD k 0 then updN m k true else m):LoopTo G ps k (j+1) m':=by
 intro x hx
 have htk:(adjOf G k).take (j+1)=(adjOf G k).take j++[t]:=by rw [List.take_add_one,ht]; rfl
 by_cases hp:ps.getD t 0=ps.getD k 0
 ·rw [if_pos hp] at hm
  subst hm
  by_cases e:x=k
  ·subst e
   rw [updN_same]
   exact ⟨fun _=>.inr ⟨rfl,t,by rw [htk]; simp,hp⟩,fun _=>rfl⟩
  ·rw [updN_other _ _ _ e,h x hx]
   exact ⟨fun q=>q.imp id (fun q=>absurd q.1 e),fun q=>q.imp id (fun q=>absurd q.1 e)⟩
 ·rw [if_neg hp] at hm
  subst hm
  rw [h x hx,htk]
  constructor
  ·rintro (q | ⟨e,s,hs,hq⟩)
   ·exact .inl q
   ·exact .inr ⟨e,s,List.mem_append_left _ hs,hq⟩
  ·rintro (q | ⟨e,s,hs,hq⟩)
   ·exact .inl q
   ·rcases List.mem_append.1 hs with hs | hs
    ·exact .inr ⟨e,s,hs,hq⟩
    ·cases List.mem_singleton.1 hs; exact absurd hq hp
section
variable {K N:Nat} {T:List Int}
theorem pairG_len:(pairG K N T).length=N*N:=rowsOf_len _ _
theorem pairG_row {p:Nat} (hp:p<N*N):(pairG K N T).getD p []=castI (pairL K N T p):=rowsOf_get _ _ _ hp
end
def outG (G:List (List Int)) (a:Int):Prop:=a<0∨(G.length:Int)≤a
instance (G:List (List Int)) (a:Int):Decidable (outG G a):=by unfold outG; infer_instance
theorem FirstPost.step {w1 w2 w3:World} {adj:Nat→List Nat} {a b:Nat} {x:Value} (h:FirstPost w2 adj a b x w3) (hs:w1.heap.size≤w2.heap.size):FirstPost w1 adj a b x w3:=by
 rcases h with ⟨u,h1,h2⟩ | h
 ·exact .inl ⟨u,h1,h2.mono hs⟩
 ·exact .inr h
theorem FirstPost.shape {w w':World} {adj:Nat→List Nat} {a b:Nat} {x:Value} (h:FirstPost w adj a b x w'):∃ p n c,x=.slice p n c:=by
 rcases h with ⟨u,_,h2⟩ | ⟨_,h⟩
 ·exact h2.at.shape
 ·exact ⟨_,_,_,h⟩
theorem OwnI.cut {B:Nat} {w:World} {g m c:Nat} {xs:List Int} (h:OwnI B w (.slice (some ⟨g,0,none⟩) (m+1) c) xs) (hl:xs.length=m+1):OwnI B w (.slice (some ⟨g,0,none⟩) m c) (xs.take m):=by
 rcases h.2 with ⟨e,_⟩ | ⟨g',cap',cur,e,hB,hg,hn,hm,hs,ht⟩
 ·cases e
 ·injection e with e1 e2 e3
  injection e1 with e1
  injection e1 with e1
  subst e1; subst e3
  have hml:(xs.take m).length=m:=by simp; omega
  refine ⟨by simp,.inr ⟨g,c,cur,by rw [hml],hB,hg,by rw [hml]; omega,hm,hs,?_⟩⟩
  rw [hml]
  rw [hl] at ht
  have:=congrArg (List.take m) ht
  rw [List.take_take] at this
  simp only [Nat.mul_one] at this ⊢
  rw [Nat.min_eq_left (by omega)] at this
  rw [this,List.map_take]
def ChainOk (G:List (List Int)) (u:List Nat):Prop:=∀ i x,u[i]?=some x→x<G.length∧∀ j y,i=j+1→u[j]?=some y→(x:Int)∈G.getD y []
theorem ChainOk.dropLast {G:List (List Int)} {u:List Nat} (h:ChainOk G u):ChainOk G u.dropLast:=by
 have up:∀ i x,u.dropLast[i]?=some x→u[i]?=some x:=fun i x hx=>by
  rw [List.getElem?_dropLast] at hx
  split at hx
  ·exact hx
  ·cases hx
 intro i x hx
 exact ⟨(h i x (up i x hx)).1,fun j y e hy=>(h i x (up i x hx)).2 j y e (up j y hy)⟩
theorem ChainOk.nil (G:List (List Int)):ChainOk G []:=fun i x hx=>by simp at hx
set_option maxHeartbeats 8000000
theorem dm (p N:Nat) (hp:p≤100000000):(p:Int).tdiv (N:Int)=((p/N:Nat):Int)∧(p:Int).tmod (N:Int)=((p%N:Nat):Int)∧(p:Int)/(N:Int)=((p/N:Nat):Int)∧(p:Int)%(N:Int)=((p%N:Nat):Int) ∧
 IntKind.i64.wrap ((p/N:Nat):Int)=((p/N:Nat):Int)∧IntKind.i64.wrap ((p%N:Nat):Int)=((p%N:Nat):Int):=by
 have h1:p/N≤p:=Nat.div_le_self _ _
 have h2:p%N≤p:=Nat.mod_le _ _
 refine ⟨by rw [Int.tdiv_eq_ediv_of_nonneg (by omega)]; simp,by rw [Int.tmod_eq_emod_of_nonneg (by omega)]; simp,by simp,by simp,?_,?_⟩
 ·generalize p/N=a at *; exact wrapK (by omega) (by omega)
 ·generalize p%N=a at *; exact wrapK (by omega) (by omega)
theorem words1_any (x:Int) (b N:Nat) (w:World) (hN:N≤10000) (hb:w.cell? ⟨b,0,none⟩=some (.int .i64 N)) :
 Calls Tryz.prog 151 #[.int .i64 x,.pointer (some ⟨b,0,none⟩)] w fun e w'=>e=.returned (.bool (odd1 ((N*N:Nat):Int) x))∧w=w':=by
 have hM:(N:Int)*(N:Int)=((N*N:Nat):Int):=by simp
 have hM2:=Nat.mul_le_mul hN hN
 by_cases h:x<0
 ·have e:odd1 ((N*N:Nat):Int) x=true:=by simp [odd1,h]
  rw [e]
  clear hM hM2
  go_enter Tryz.func151,Tryz.ntmps151
  go_wp2
  go_ret
  exact ⟨rfl,rfl⟩
 ·have e:odd1 ((N*N:Nat):Int) x=decide (((N*N:Nat):Int)≤x):=by simp [odd1,h]
  rw [e]
  generalize N*N=M at *
  clear e
  go_enter Tryz.func151,Tryz.ntmps151
  go_wp2
  go_ret
  exact ⟨ret_bool (by simp),rfl⟩
theorem eg_words1 (args:Array Value) (w:World):(callFunc 151 args).run Tryz.prog w=.ok (.enter 151 args) w:=by kernel_rfl
theorem words2_any (K R x q:Nat) (w:World) (hk1:1≤K) (hk4:K≤4) (hR:R≤3) (hx:x≤100000) (q0:w.cell? ⟨q,0,none⟩=some (.int .i64 K)) (q1:w.cell? ⟨q,1,none⟩=some (.int .i64 R)) :
 Calls Tryz.prog 153 #[.int .i64 x,.pointer (some ⟨q,0,none⟩)] w (Ret1 (fun y w'=>OwnI w.heap.size w' y (digs K (2*R) x)) w):=by
 obtain ⟨ov,w1,mk,ho,hb1⟩:=run_makeI (2*(R:Int)) (2*R) w (by omega) (by omega)
 have lo:=ho.at.len
 rw [List.length_replicate] at lo
 obtain ⟨oa,on,oc,rfl⟩:=ho.at.shape
 have hql:=World.block_lt_of_cell? _ _ q0
 have hK0:((K:Int)==0)=false:=by rw [beq_eq_false_iff_ne]; omega
 have hK1:¬ (K:Int)=0:=by omega
 have hK2:(0:Int)<K:=by omega
 have hK3:¬ K=0:=by omega
 obtain ⟨N,hN⟩:∃ N,2*R=N:=⟨_,rfl⟩
 have hN6:N≤6:=by omega
 rw [hN] at ho lo ⊢
 have hNi:2*(R:Int)=(N:Int):=by omega
 have hNw:IntKind.i64.wrap (N:Int)=N:=wrapK (by omega) (by omega)
 rw [hNi] at mk
 replace ho:=Hd ho
 replace hN:=Hd hN
 go_enter Tryz.func153,Tryz.ntmps153
 go_wp2_with fail
 clear mk
 go_loopw [0,12] (fun xv jv wr=>∃ j:Nat,j≤N∧jv=.int .i64 j∧xv=.int .i64 (x/pw K j:Nat)∧OwnI w.heap.size wr (.slice oa on oc) ((List.replicate N (0:Int)).take (N-j)++(digs K N x).drop (N-j))∧Below w.heap.size w wr) (fun _ jv _=>N-(intOf jv).toNat)
 case atStart=>exact ⟨0,by omega,rfl,by simp [pw],by rw [Nat.sub_zero,List.drop_of_length_le (by rw [digs_length]; exact Nat.le_refl _),List.append_nil,List.take_of_length_le (by simp)]; exact ho.out,hb1⟩
 case round =>
  obtain ⟨j,hj,rfl,rfl,hO,hbI⟩:=hrel
  obtain ⟨wi,rfl⟩:∃ wi:World,wi=wr:=⟨_,rfl⟩
  by_cases hjl:j<N
  ·have hXl:((List.replicate N (0:Int)).take (N-j)++(digs K N x).drop (N-j)).length=N:=by simp only [List.length_append,List.length_take,List.length_replicate,List.length_drop,digs_length]; omega
   have i1:∀ w',(Instr.indexAt 22 (.slice oa on oc) (.int .i64 ((N:Int)-1-(j:Int)))).run Tryz.prog w'=.ok (.pointer (some (valAt (.slice oa on oc) (N-1-j)))) w':=by
    intro w'
    have:=hO.at.idxI ((N:Int)-1-(j:Int)) (by omega) (by rw [hXl]; omega) w'
    rwa [show ((N:Int)-1-(j:Int)).toNat=N-1-j by omega] at this
   have c1:=hO.at.cellD (N-1-j) (by rw [hXl]; omega)
   have f1:=hO.frz (N-1-j) (by rw [hXl]; omega)
   have hS:=hO.set (N-1-j) (by rw [hXl]; omega) ((x/pw K j%K:Nat):Int)
   have hbS:=hO.setBelow hbI (N-1-j) (by rw [hXl]; omega) (.int .i64 ((x/pw K j%K:Nat):Int))
   rw [digs_fill K N x j hjl _ (by simp)] at hS
   have hqd:x/pw K j/K=x/pw K (j+1):=by rw [Nat.div_div_eq_div_mul,← pw_succ]
   have hql:x/pw K j≤100000:=Nat.le_trans (Nat.div_le_self _ _) hx
   have y0:=(hbI.cell (p:=⟨q,0,none⟩) (World.block_lt_of_cell? _ _ q0)).trans q0
   have hbe:=hO.blkB (N-1-j) (by rw [hXl]; omega)
   generalize ((List.replicate N (0:Int)).take (N-j)++(digs K N x).drop (N-j)).getD (N-1-j) 0=y at c1
   have y0':(wi.setCell (valAt (.slice oa on oc) (N-1-j)) (.int .i64 ((x/pw K j%K:Nat):Int))).cell? ⟨q,0,none⟩=some (.int .i64 K):=(hbS.cell (p:=⟨q,0,none⟩) (World.block_lt_of_cell? _ _ q0)).trans q0
   have hlen':=lo
   generalize valAt (.slice oa on oc) (N-1-j)=ya at *
   generalize x/pw K j=z at *
   obtain ⟨a1,a2,a3,a4,a5,a6⟩:=dm z K (by omega)
   obtain ⟨d,hd⟩:∃ d,z%K=d:=⟨_,rfl⟩
   obtain ⟨e,he⟩:∃ e,z/K=e:=⟨_,rfl⟩
   rw [hd] at a2 a4 a6 hS hbS y0'
   rw [he] at a1 a3 a5 hqd
   replace hS:=Hd hS
   replace hbS:=Hd hbS
   replace hqd:=Hd hqd
   replace hO:=Hd hO
   replace hd:=Hd hd
   replace he:=Hd he
   clear hXl
   go_wp2
   go_roundw
   case rel=>exact ⟨j+1,by omega,by go_num,by rw [← hqd.out],hS.out,hbS.out⟩
   case measure=>simp [intOf]; omega
  ·obtain rfl:j=N:=by omega
   rw [Nat.sub_self,List.take_zero,List.drop_zero,List.nil_append] at hO
   replace hO:=Hd hO
   go_wp2
   go_ret
   exact ⟨_,rfl,hbI,hO.out⟩
theorem tnodes_any (N:Nat) (w:World) (hN1:1≤N) (hN:N≤81) :
 Calls Tryz.prog 149 #[.int .i64 ((N*N:Nat):Int)] w fun e w'=>e=.returned (.int .i64 N)∧w=w':=by
 have hM6:N*N≤6561:=Nat.mul_le_mul hN hN
 obtain ⟨M,hM⟩:∃ M,N*N=M:=⟨_,rfl⟩
 rw [hM] at hM6 ⊢
 replace hM:=Hd hM
 go_enter Tryz.func149,Tryz.ntmps149
 go_wp2_with fail
 go_loop [3] (fun nv=>∃ k:Nat,k≤N∧nv=.int .i64 k) (fun nv=>N-(intOf nv).toNat)
 case atStart=>exact ⟨1,hN1,rfl⟩
 case round =>
  obtain ⟨k,hk,rfl⟩:=hrel
  obtain ⟨kk,hkk⟩:∃ z,k*k=z:=⟨_,rfl⟩
  have hkk2:(k:Int)*(k:Int)=(kk:Int):=by rw [← hkk]; simp
  have hkkM:kk≤M:=by rw [← hkk,← hM.out]; exact Nat.mul_le_mul hk hk
  by_cases hlt:kk<M
  ·have hkN:k<N:=Nat.lt_of_le_of_ne hk (fun e=>by have:=hM.out; rw [e] at hkk; omega)
   replace hkk:=Hd hkk
   go_wp2
   go_round
   case measure=>simp [intOf]; omega
   case rel=>exact ⟨k+1,by omega,by go_num⟩
  ·have hkN:k=N:=by
    apply Classical.byContradiction
    intro e
    have h2:k*k<N*N:=Nat.mul_lt_mul_of_lt_of_lt (by omega) (by omega)
    rw [hkk,hM.out] at h2
    omega
   subst hkN
   replace hkk:=Hd hkk
   go_wp2
   go_ret
   exact ⟨rfl,rfl⟩
def sliceN:Value→Nat
 | .slice _ n _=>n
 | _=>0
theorem sliceN_of {w:World} {v:Value} {xs:List Int} (h:IntsAt w v xs):sliceN v=xs.length:=by
 obtain ⟨a,cap,rfl,_⟩:=h; rfl
def MeetPost (w:World) (N:Nat) (adj:Nat→List Nat) (x:Value) (w':World):Prop :=
 (∃ ws,MeetIs N adj ws∧ApartWay N adj ws∧(∀ u,ApartWay N adj u→ws.length≤u.length)∧ws.length≤20000∧OwnI w.heap.size w' x (castI ws))∨(x=.slice none 0 0∧∀ u,¬ ApartWay N adj u)
def diagsTo (N i:Nat):List Nat:=(List.range i).map fun u=>u*N+u
theorem diagsTo_succ (N i:Nat):diagsTo N (i+1)=diagsTo N i++[i*N+i]:=by simp [diagsTo,List.range_succ]
theorem meet_any (K N:Nat) (T:List Int) (ga:Option Addr) (gc:Nat) (w:World) (hk4:K≤4) (hN1:1≤N) (hN81:N≤81) (h:ListsAt w (.slice ga (pairG K N T).length gc) (pairG K N T)) :
 Calls Tryz.prog 118 #[.slice ga (pairG K N T).length gc] w (Ret1 (MeetPost w N (pairL K N T)) w):=by
 have hM6:N*N≤6561:=Nat.mul_le_mul hN81 hN81
 have hnodes:=tnodes_any N w hN1 hN81
 have lg:=h.len 3
 have hrow:=fun (p:Nat) (hp:p<N*N)=>h.row p (by rw [pairG_len]; exact hp)
 have hrow2:∀ p,p<N*N→(pairG K N T).getD p []=castI (pairL K N T p):=fun p hp=>pairG_row hp
 rw [pairG_len] at lg h ⊢
 obtain ⟨M,hM⟩:∃ M,N*N=M:=⟨_,rfl⟩
 have hMe:=hM
 rw [pairG_len] at hrow
 rw [hM] at hnodes hM6 lg h hrow hrow2 ⊢
 have b0:=belowAlloc w (.cells #[.int .i64 (-1)] 3)
 have hI:=(OwnI.lit w.heap.size w (Nat.le_refl _) [-1] (by simp [maxLen]) #[.int .i64 (-1)] rfl 1 rfl).at
 have hRep:=repeat_any _ (-1) M _ hI (by omega)
 replace hRep:=Hd hRep
 replace hI:=Hd hI
 replace hnodes:=Hd hnodes
 replace hM:=Hd hM
 replace hMe:=Hd hMe
 replace h:=Hd h
 replace hrow:=Hd hrow
 replace hrow2:=Hd hrow2
 go_enter Tryz.func118,Tryz.ntmps118
 go_wp2_with fail
 refine hnodes.out.mono ?_
 rintro e w' ⟨rfl,rfl⟩
 go_wp2_with fail
 refine hRep.out.mono ?_
 rintro e w1 ⟨cv,rfl,b1,hcv⟩
 obtain ⟨w0,hw0⟩:∃ w0:World,w0=w.alloc (.cells #[.int .i64 (-1)] 3):=⟨_,rfl⟩
 rw [← hw0] at b0 b1 hcv
 rw [← tabI_neg1] at hcv
 clear hRep hI hw0
 have b01:=Below.step b0 b1
 have R1:=(rowsE w.heap.size w0).add (i:=(1,0)) (r':=rowI cv (tabI M fun _=>-1)) b1 (hcv.mono b0.size) (fun k hk=>(hcv.lt k hk).1)
 have R2:=R1.add (i:=(2,0)) (r':=rowI (.slice none 0 0) []) (Below.refl _ _) (OwnI.nil _ _) (fun k hk=>by cases hk)
 obtain ⟨f0,hf0⟩:∃ f0,f0=upd (upd (fun _=>none) (1,0) (some (rowI cv (tabI M fun _=>-1)))) (2,0) (some (rowI (.slice none 0 0) [])):=⟨_,rfl⟩
 rw [← hf0] at R2
 have hF0:FN f0 cv (.slice none 0 0) M (fun _=>-1) (diagsTo N 0):=⟨by rw [hf0,upd_ne _ _ (by simp),upd_same],by rw [hf0,upd_same]; rfl⟩
 obtain ⟨ca,cn,cc,rfl⟩:=hcv.at.shape
 replace R2:=Hd R2
 replace hF0:=Hd hF0
 replace hcv:=Hd hcv
 clear R1 hf0
 go_wp2_with fail
 go_loopw [5,22] (fun qv iv wr=>∃ (i:Nat) (f:Names) (qw:Value),i≤N∧iv=.int .i64 i∧qw=qv∧Rows w.heap.size wr f∧Below w.heap.size w wr∧FN f (.slice ca cn cc) qw M (fun _=>-1) (diagsTo N i)) (fun _ iv _=>N-(intOf iv).toNat)
 case atStart=>exact ⟨0,f0,_,by omega,rfl,rfl,R2.out,b01,hF0.out⟩
 case round =>
  clear R2 hF0 hcv
  obtain ⟨i,f1,qv,hi,rfl,rfl,hr1,bI,hF⟩:=hrel
  obtain ⟨wo,rfl⟩:∃ wo:World,wo=wr:=⟨_,rfl⟩
  by_cases hil:i<N
  ·obtain ⟨m,hm⟩:∃ z,i*N=z:=⟨_,rfl⟩
   have hm2:(i:Int)*(N:Int)=(m:Int):=by rw [← hm]; simp
   have hml:m≤6561:=by rw [← hm]; exact Nat.le_trans (Nat.mul_le_mul (show i≤81 by omega) hN81) (by decide)
   obtain ⟨z,hz⟩:∃ z,m+i=z:=⟨_,rfl⟩
   have hz2:(m:Int)+(i:Int)=(z:Int):=by omega
   have hwm:IntKind.i64.wrap (m:Int)=m:=wrapK (by omega) (by omega)
   have hwz:IntKind.i64.wrap (z:Int)=z:=wrapK (by omega) (by omega)
   have hds:diagsTo N (i+1)=diagsTo N i++[z]:=by rw [diagsTo_succ,hm,hz]
   have hoQ:=hr1.ownI hF.queue
   have hB:=bI.size
   have hil2:=Hd hil
   have hlq:(castI (diagsTo N i)).length≤81:=by rw [castI_len]; simp [diagsTo]; omega
   replace hr1:=Hd hr1
   replace hF:=Hd hF
   replace hm:=Hd hm
   replace hz:=Hd hz
   replace hds:=Hd hds
   go_wp2_with (at_builtin; refine wpl_app1 rfl _ _ rfl w.heap.size qv _ z hoQ rfl rfl (by omega) hB ?_)
   intro qv' w7 ho7 b7 hal7
   obtain ⟨f8,hr8,h8,_⟩:=hF.out.push hr1.out z ho7 hal7
   obtain ⟨q1,q2,q3,rfl⟩:=ho7.at.shape
   replace hr8:=Hd hr8
   replace ho7:=Hd ho7
   clear hal7 hoQ
   go_wp2
   go_roundw
   case measure=>have:=hil2.out; simp [intOf]; omega
   case rel=>exact ⟨i+1,f8,_,by have:=hil2.out; omega,by go_num,rfl,hr8.out,bI.trans b7,by rw [hds.out]; exact h8⟩
  ·obtain rfl:i=N:=by omega
   have hO0:=MOut.init i (pairL K i T)
   have hC0:=CameOf.init i (pairL K i T)
   have hNz1:¬ (i:Int)=0:=by omega
   have hNz2:((i:Int)==0)=false:=by rw [beq_eq_false_iff_ne]; omega
   have hNz3:¬ i=0:=by omega
   replace hr1:=Hd hr1
   replace hF:=Hd hF
   replace hO0:=Hd hO0
   replace hC0:=Hd hC0
   go_wp2_with fail
   go_loopw [5,7] (fun qv iv wr=>∃ (j:Nat) (f:Names) (qw:Value) (came:Nat→Int) (q:List Nat) (D:Nat→Nat),j≤q.length∧iv=.int .i64 j∧qw=qv∧Rows w.heap.size wr f∧Below w.heap.size w wr∧FN f (.slice ca cn cc) qw M came q∧MOut i (pairL K i T) D q j∧CameOf i (pairL K i T) D q came∧stM i (pairL K i T) j=(came,q)∧∀ z,z<j→NoHit i (pairL K i T) z) (fun _ iv _=>M+1-(intOf iv).toNat)
   case atStart=>exact ⟨0,f1,_,_,_,_,by omega,rfl,rfl,hr1.out,bI,hF.out,hO0.out,hC0.out,rfl,fun z hz=>absurd hz (Nat.not_lt_zero _)⟩
   case round =>
    clear hr1 hF hO0 hC0 bI
    obtain ⟨j,f2,qv,came,q,D,hj,rfl,rfl,hr2,b2,hF2,hO,hC,hst,hnh⟩:=hrel
    obtain ⟨wo,rfl⟩:∃ wo:World,wo=wr:=⟨_,rfl⟩
    have hqlen:q.length≤M:=nodup_len M q hO.nodup (fun x hx=>by rw [← hM.out]; exact hO.low x hx)
    have hOQ:=hr2.ownI hF2.queue
    have lQ:=hOQ.at.len
    rw [castI_len] at lQ
    by_cases hjl:j<q.length
    ·obtain ⟨v,hv⟩:∃ v,q[j]?=some v:=⟨_,List.getElem?_eq_getElem hjl⟩
     have hvM:v<M:=by rw [← hM.out]; exact hO.low v (List.mem_of_getElem? hv)
     have iV:=fun w'=>hOQ.at.idx j (by rw [castI_len]; exact hjl) w'
     have cV:=hOQ.at.cellD j (by rw [castI_len]; exact hjl)
     rw [castI_get hv] at cV
     obtain ⟨mv,iR,cR,hMv⟩:=hrow.out v hvM
     rw [hrow2.out v hvM] at hMv
     have cR2:=(b2.cell (World.block_lt_of_cell? _ _ cR)).trans cR
     have lM:=hMv.len
     rw [castI_len] at lM
     have hadjl:(pairL K i T v).length≤16:=Nat.le_trans (pairL_len K i T v) (Nat.le_trans (Nat.mul_le_mul hk4 hk4) (by decide))
     obtain ⟨d1,d2,d3,d4,d5,d6⟩:=dm v i (by omega)
     obtain ⟨u1,hu1⟩:∃ z,v/i=z:=⟨_,rfl⟩
     obtain ⟨v1,hv1⟩:∃ z,v%i=z:=⟨_,rfl⟩
     rw [hu1] at d1 d3 d5
     rw [hv1] at d2 d4 d6
     have hvd:Diag i v↔u1=v1:=by unfold Diag; rw [hu1,hv1]
     have hin:=hO.enter hv
     have hjl2:=Hd hjl
     obtain ⟨L,hL⟩:∃ L,pairL K i T v=L:=⟨_,rfl⟩
     rw [hL] at hMv lM hadjl
     have hLlow:∀ t∈L,t<M:=fun t ht=>by
      rw [← hL] at ht
      rw [← hM.out]; exact ((mem_pairL (by omega)).1 ht).lt (by omega)
     generalize valAt qv j=qa at *
     generalize valAt (.slice ga M gc) v=ra at *
     obtain ⟨ap,hap⟩:∃ ap:Bool,ap=((u1:Int) != (v1:Int)):=⟨_,rfl⟩
     have hapd:ap=true↔¬ Diag i v:=by rw [hap,bne_iff_ne,hvd]; omega
     have hap2:((u1:Int) != (v1:Int))=ap:=hap.symm
     have hap3:(u1 != v1)=ap:=by rw [hap]; rw [Bool.eq_iff_iff,bne_iff_ne,bne_iff_ne]; omega
     replace hap:=Hd hap
     replace hu1:=Hd hu1
     replace hv1:=Hd hv1
     replace hvd:=Hd hvd
     replace hL:=Hd hL
     replace hMv:=Hd hMv
     replace hin:=Hd hin
     replace hr2:=Hd hr2
     replace hF2:=Hd hF2
     replace hO:=Hd hO
     replace hC:=Hd hC
     replace hOQ:=Hd hOQ
     replace hv:=Hd hv
     have hstv:(stM i (pairL K i T) j).2[j]?=some v:=by rw [hst]; exact hv.out
     replace hstv:=Hd hstv
     replace hst:=Hd hst
     replace hnh:=Hd hnh
     go_upto_region 13 with fail
     refine wp_region_plan (fun _=>True) 7 [(0,true),(1,true),(2,true),(3,true),(4,true),(5,true),(6,true)] (by kernel_rfl) (by kernel_rfl) ?_
     have hS:True:=trivial
     refine pqY 44 hS ?_
     refine pqY 45 hS ?_
     refine pqY 46 hS ?_
     refine pqY 47 hS ?_
     refine pqY 48 hS ?_
     refine pqY 49 hS ?_
     refine pqY 50 hS ?_
     refine head0 ?_
     simp only [List.drop_succ_cons,List.drop_zero]
     clear hS
     go_wp2
     refine NoPanic.normal ?_
     go_wp2_with fail
     clear cV iV cR2 lQ hap2 hap3
     go_loopw [5,56] (fun qv tv wr=>∃ (k:Nat) (f:Names) (qw:Value) (came:Nat→Int) (q:List Nat) (D:Nat→Nat),k≤L.length∧tv=.int .i64 k∧qw=qv∧Rows w.heap.size wr f∧Below w.heap.size w wr∧FN f (.slice ca cn cc) qw M came q∧j<q.length∧MIn i (pairL K i T) D q j v (L.take k)∧CameOf i (pairL K i T) D q came∧rowM i (pairL K i T) v (stM i (pairL K i T) j) k=(came,q)) (fun _ tv _=>L.length-(intOf tv).toNat)
     case atStart=>exact ⟨0,f2,_,came,q,D,by omega,rfl,rfl,hr2.out,by first | exact b2 | exact b2.drew,hF2.out,hjl2.out,hin.out,hC.out,hst.out⟩
     case round =>
      clear hr2 hF2 hO hC hOQ hin b2 hqlen hst
      obtain ⟨k,f3,qv,came,q,D,hk,rfl,rfl,hr3,b3,hF3,hjq,hIn,hC,hrm⟩:=hrel
      obtain ⟨wp',rfl⟩:∃ wo:World,wo=wr:=⟨_,rfl⟩
      have hqlen:q.length≤M:=nodup_len M q hIn.nodup (fun x hx=>by rw [← hM.out]; exact hIn.low x hx)
      by_cases hkl:k<L.length
      ·obtain ⟨t,ht⟩:∃ t,L[k]?=some t:=⟨_,List.getElem?_eq_getElem hkl⟩
       have htm:t∈pairL K i T v:=by rw [hL.out]; exact List.mem_of_getElem? ht
       have htM:t<M:=hLlow t (List.mem_of_getElem? ht)
       have hM3:=hMv.out.below b3
       have iT:=fun w'=>hM3.idx k (by rw [castI_len]; exact hkl) w'
       have cT:=hM3.cellD k (by rw [castI_len]; exact hkl)
       rw [castI_get ht] at cT
       have htk:L.take (k+1)=L.take k++[t]:=by rw [List.take_add_one,ht]; rfl
       have hrs:rowM i (pairL K i T) v (stM i (pairL K i T) j) (k+1)=stepM i v (came,q) t:=by rw [rowM_succ (t:=t) (by rw [hL.out]; exact ht),hrm]
       have hskip:(Diag i t∨¬ came t<0)→stepM i v (came,q) t=(came,q):=fun e=>by
        unfold stepM; rw [if_neg]; rintro ⟨e1,e2⟩; rcases e with e | e
        ·exact e1 e
        ·exact e e2
       have hpush:¬ Diag i t→came t<0→stepM i v (came,q) t=(updN came t (v:Int),q++[t]):=fun e1 e2=>by
        unfold stepM; rw [if_pos ⟨e1,e2⟩]
       replace hrs:=Hd hrs
       replace hskip:=Hd hskip
       replace hpush:=Hd hpush
       replace hrm:=Hd hrm
       obtain ⟨e1,e2,e3,e4,e5,e6⟩:=dm t i (by omega)
       obtain ⟨a,ha⟩:∃ z,t/i=z:=⟨_,rfl⟩
       obtain ⟨b,hb⟩:∃ z,t%i=z:=⟨_,rfl⟩
       have htd:Diag i t↔a=b:=by unfold Diag; rw [ha,hb]
       rw [ha] at e1 e3 e5
       rw [hb] at e2 e4 e6
       have hOC:=hr3.ownI hF3.came
       have iC:=fun w'=>hOC.at.idx t (by rw [tabI_len]; exact htM) w'
       have cC:=hOC.at.cellD t (by rw [tabI_len]; exact htM)
       rw [tabI_get _ _ _ htM] at cC
       have fC:=hOC.frz t (by rw [tabI_len]; exact htM)
       have kC:=(hOC.toV.blkB t (by rw [List.length_map,tabI_len]; exact htM)).2
       obtain ⟨f8,hr8,h8,hf8⟩:=hF3.set hr3 t htM (v:Int)
       obtain ⟨ct,hct⟩:∃ ct,came t=ct:=⟨_,rfl⟩
       rw [hct] at cC
       have hC1:=hC.1 t (by rw [hM.out]; exact htM)
       rw [hct] at hC1
       have hkl2:=Hd hkl
       have hBs:=b3.size
       generalize valAt mv k=ta at *
       generalize valAt (.slice ca cn cc) t=tc at *
       replace ha:=Hd ha
       replace hb:=Hd hb
       replace ht:=Hd ht
       replace hM3:=Hd hM3
       replace hOC:=Hd hOC
       replace hr3:=Hd hr3
       replace hF3:=Hd hF3
       replace hIn:=Hd hIn
       replace hC:=Hd hC
       replace hr8:=Hd hr8
       replace h8:=Hd h8
       replace htk:=Hd htk
       replace htm:=Hd htm
       replace hct:=Hd hct
       replace hC1:=Hd hC1
       by_cases hab:a=b
       ·have hq:((a:Int) != (b:Int))=false:=by rw [bne_eq_false_iff_eq]; omega
        have hq2:((a:Int)==(b:Int))=true:=by rw [beq_iff_eq]; omega
        have htD:=htd.2 hab
        replace htd:=Hd htd
        go_upto_region 17 with fail
        refine wp_region_plan (fun _=>True) 14 [(0,true),(1,true),(2,true),(3,true),(4,true),(5,true),(6,true),(7,true),(8,true),(9,true),(10,true),(11,true),(12,true),(13,true)] (by kernel_rfl) (by kernel_rfl) ?_
        have hS:True:=trivial
        refine pqY 61 hS ?_
        refine pqY 62 hS ?_
        refine pqY 63 hS ?_
        refine pqY 64 hS ?_
        refine pqY 65 hS ?_
        refine pqY 66 hS ?_
        refine pqY 67 hS ?_
        refine pqY 68 hS ?_
        refine pqN 69 hS ?_
        refine pqN 70 hS ?_
        refine pqN 71 hS ?_
        refine pqN 72 hS ?_
        refine pqN 73 hS ?_
        refine pqY 74 hS ?_
        refine head0 ?_
        simp only [List.drop_succ_cons,List.drop_zero]
        clear hS
        go_wp2
        refine NoPanic.normal ?_
        go_upto_region 20 with fail
        refine wp_region_plan (fun _=>True) 10 [(0,true),(1,true),(2,true),(3,true),(4,true),(5,true),(6,true),(7,true),(8,true),(9,true)] (by kernel_rfl) (by kernel_rfl) ?_
        have hS:True:=trivial
        refine pqY 84 hS ?_
        refine pqY 85 hS ?_
        refine pqY 86 hS ?_
        refine pqY 87 hS ?_
        refine pqY 88 hS ?_
        refine pqY 89 hS ?_
        refine pqY 90 hS ?_
        refine pqY 91 hS ?_
        refine pqY 92 hS ?_
        refine pqY 93 hS ?_
        refine head0 ?_
        simp only [List.drop_succ_cons,List.drop_zero]
        clear hS
        cases ap with
        | false =>
         have hvD:Diag i v:=by
          apply Classical.byContradiction
          intro e
          have:=hapd.2 e
          cases this
         have hsk:=hIn.out.skip (.inl ⟨htD,hvD⟩)
         rw [← htk.out] at hsk
         replace hsk:=Hd hsk
         clear hapd
         go_wp2
         refine NoPanic.normal ?_
         go_wp2
         go_roundw
         case measure=>have:=hkl2.out; simp [intOf]; omega
         case rel=>exact ⟨k+1,f3,_,came,q,D,by have:=hkl2.out; omega,by go_num,rfl,hr3.out.drew.drew,b3.drew.drew,hF3.out,hjq,hsk.out,hC.out,by rw [hrs.out,hskip.out (.inl htD)]⟩
        | true =>
         have hvD:¬ Diag i v:=hapd.1 rfl
         obtain ⟨c,hbw,hap1,hap2,hap3⟩:=hIn.out.met hC.out hvD htD (by rw [hM.out]; exact htM) htm.out
         have hmi:MeetIs i (pairL K i T) (c.reverse++[t]):=⟨j,v,k,t,c,hstv.out,by rw [hL.out]; exact ht.out,htD,hvD,by rw [hrm.out]; exact hbw,rfl,hnh.out,fun z x hz hx hd=>(hIn.out.now x (by rw [hL.out] at hx; exact List.mem_of_getElem? (by rw [List.getElem?_take,if_pos hz]; exact hx))).2 hd⟩
         have hDv:D v≤q.length:=hIn.out.bnd v (List.mem_of_getElem? hIn.out.at_)
         have hcl:c.length≤7000:=by
          have:(c.reverse++[t]).length=c.length+1:=by simp
          omega
         have hnx:=hbw.next (by rw [hM.out]; exact hvM)
         have hrc:castI (c.reverse++[t])=(castI (t::c)).reverse:=by rw [← castI_reverse,List.reverse_cons]
         obtain ⟨c',hc'⟩:=hbw.ne
         have hc0:c[0]?=some v:=by rw [hc']; rfl
         have hc1:0<c.length:=by rw [hc']; simp
         obtain ⟨W,hW⟩:∃ W:World,W=wp'.drew.drew:=⟨_,rfl⟩
         have bWp:Below wp'.heap.size wp' W:=by rw [hW]; exact (Below.refl _ _).drew.drew
         have hrW:Rows w.heap.size W f3:=by rw [hW]; exact hr3.out
         have bW:=b3.trans (bWp.mono b3.size)
         have bl:=belowAlloc W (.cells #[.int .i64 t] 3)
         have hlit:=OwnI.lit W.heap.size W (Nat.le_refl _) [(t:Int)] (by simp [maxLen]) #[.int .i64 (t:Int)] rfl 1 rfl
         replace hnx:=Hd hnx
         replace hbw:=Hd hbw
         replace hrc:=Hd hrc
         replace hap1:=Hd hap1
         replace hmi:=Hd hmi
         replace hap2:=Hd hap2
         replace hap3:=Hd hap3
         replace hc':=Hd hc'
         replace hc0:=Hd hc0
         replace hlit:=Hd hlit
         replace hrW:=Hd hrW
         clear hapd iT cT iC cC fC
         go_wp2
         refine NoPanic.normal ?_
         go_upto_region 21 with fail
         rw [← hW]
         replace hW:=Hd hW
         go_wp2_with fail
         go_loopw [12,13] (fun wv uv wr=>∃ (m:Nat) (ww:Value),m≤c.length∧ww=wv∧((m<c.length∧∃ y,c[m]?=some y∧uv=.int .i64 (y:Nat))∨(m=c.length∧uv=.int .i64 (-1)))∧OwnI W.heap.size wr ww (castI (t::c.take m))∧Below W.heap.size W wr) (fun wv _ _=>c.length+1-sliceN wv)
         case atStart=>exact ⟨0,_,by omega,rfl,.inl ⟨hc1,v,hc0.out,rfl⟩,hlit.out,bl⟩
         case round =>
          obtain ⟨m,ww,hm,rfl,hcase,hoW,bWr⟩:=hrel
          obtain ⟨wz,rfl⟩:∃ wo:World,wo=wr:=⟨_,rfl⟩
          have hwl:(castI (t::c.take m)).length=m+1:=by rw [castI_len,List.length_cons,List.length_take]; omega
          have hsn:sliceN ww=m+1:=by rw [sliceN_of hoW.at,hwl]
          rcases hcase with ⟨hmc,y,hy,rfl⟩ | ⟨hmc,rfl⟩
          ·obtain ⟨hyM,hnext⟩:=hnx.out m y hy
           rw [hM.out] at hyM
           have htk2:castI (t::c.take m)++[(y:Int)]=castI (t::c.take (m+1)):=by
            rw [← castI_snoc,List.take_add_one,hy]; rfl
           have hBW:=bWr.size
           replace hnext:=Hd hnext
           replace hy:=Hd hy
           replace hsn:=Hd hsn
           replace htk2:=Hd htk2
           go_wp2_with (at_builtin; go_loud (refine wpl_append1 rfl _ _ rfl W.heap.size ww _ y hoW rfl rfl (by omega) hBW ?_))
           intro v' w7 ho7 b7 _ _
           have bW7:=bWr.trans b7
           have hOC7:=(hrW.out.below bW7).ownI hF3.out.came
           have iY:=fun w'=>hOC7.at.idx y (by rw [tabI_len]; exact hyM) w'
           have cY:=hOC7.at.cellD y (by rw [tabI_len]; exact hyM)
           rw [tabI_get _ _ _ hyM] at cY
           rw [htk2.out] at ho7
           have hl7:(castI (t::c.take (m+1))).length=m+2:=by rw [castI_len,List.length_cons,List.length_take]; omega
           have hs7:sliceN v'=m+2:=by rw [sliceN_of ho7.at,hl7]
           obtain ⟨va,vn,vc,rfl⟩:=ho7.at.shape
           generalize valAt (.slice ca cn cc) y=ya at *
           obtain ⟨z,hz⟩:∃ z,came y=z:=⟨_,rfl⟩
           rw [hz] at cY
           have hnext2:(m+1<c.length∧∃ x,c[m+1]?=some x∧z=(x:Nat))∨(m+1=c.length∧z=-1):=by rw [← hz]; exact hnext.out
           replace ho7:=Hd ho7
           replace hOC7:=Hd hOC7
           replace hz:=Hd hz
           replace hs7:=Hd hs7
           replace hnext2:=Hd hnext2
           clear hoW
           go_wp2
           go_roundw
           case measure=>have:=hs7.out; have:=hsn.out; omega
           case rel =>
            refine ⟨m+1,_,by omega,rfl,?_,ho7.out,bW7⟩
            rcases hnext2.out with ⟨h1,x,h2,h3⟩ | ⟨h1,h2⟩
            ·exact .inl ⟨h1,x,h2,by rw [h3]⟩
            ·exact .inr ⟨h1,by rw [h2]⟩
          ·subst hmc
           rw [List.take_length] at hoW
           replace hoW:=Hd hoW
           replace hsn:=Hd hsn
           go_wp2_with fail
           refine (reverse_own W.heap.size ww _ wz hoW.out (by rw [castI_len,List.length_cons]; omega)).mono ?_
           rintro e w8 ⟨rfl,ho8,b8⟩
           rw [← hrc.out] at ho8
           have bE:=bW.trans ((bWr.trans b8).mono bW.size)
           have ho9:=ho8.mono (B':=w.heap.size) bW.size
           have hlen9:(c.reverse++[t]).length≤20000:=by simp; omega
           obtain ⟨va,vn,vc,rfl⟩:=ho8.at.shape
           replace ho8:=Hd ho8
           replace ho9:=Hd ho9
           go_wp2
           go_ret
           exact ⟨_,rfl,bE,.inl ⟨_,hmi.out,hap1.out,hap3.out,hlen9,ho9.out⟩⟩
       ·have hq:((a:Int) != (b:Int))=true:=by rw [bne_iff_ne]; omega
        have hq2:((a:Int)==(b:Int))=false:=by rw [beq_eq_false_iff_ne]; omega
        have htD:¬ Diag i t:=fun e=>hab (htd.1 e)
        replace htd:=Hd htd
        by_cases hneg:ct<0
        ·obtain rfl:=hC1.out.2 hneg
         have htq:t∉q:=(hC1.out.1.1 (by decide)).resolve_left htD
         have hadd:=hIn.out.add (by rw [hM.out]; exact htM) htD htq
         have hcadd:=hC.out.add hIn.out htD htq htm.out
         rw [← htk.out] at hadd
         replace hadd:=Hd hadd
         replace hcadd:=Hd hcadd
         replace htq:=Hd htq
         go_upto_region 17 with fail
         refine wp_region_plan (fun w'=>w'.cell? tc=some (.int .i64 (-1))) 14 [(0,true),(1,true),(2,true),(3,true),(4,true),(5,true),(6,true),(7,true),(8,true),(9,true),(10,true),(11,true),(12,true),(13,true)] (by kernel_rfl) (by kernel_rfl) ?_
         have hS:wp'.drew.cell? tc=some (.int .i64 (-1)):=cC
         refine pqY 61 hS ?_
         refine pqY 62 hS ?_
         refine pqY 63 hS ?_
         refine pqY 64 hS ?_
         refine pqY 65 hS ?_
         refine pqY 66 hS ?_
         refine pqY 67 hS ?_
         refine pqY 68 hS ?_
         refine pqY 69 hS ?_
         refine pqY 70 hS ?_
         refine pqY 71 hS ?_
         refine pqY 72 hS ?_
         refine pqY 73 hS ?_
         refine pqY 74 hS ?_
         refine head0 ?_
         simp only [List.drop_succ_cons,List.drop_zero]
         clear hS
         have hr8':Rows w.heap.size ((wp'.setCell tc (.int .i64 (v:Int))).drew) f8:=hr8.out
         have b8:Below w.heap.size w ((wp'.setCell tc (.int .i64 (v:Int))).drew):=(b3.setCell kC _).drew
         obtain ⟨W8,hW8⟩:∃ W:World,W=(wp'.setCell tc (.int .i64 (v:Int))).drew:=⟨_,rfl⟩
         rw [← hW8] at hr8' b8
         have hoQ8:=hr8'.ownI h8.out.queue
         have hB8:=b8.size
         have hlq:(castI q).length≤7000:=by rw [castI_len]; omega
         replace hr8':=Hd hr8'
         go_wp2
         refine NoPanic.normal ?_
         go_upto_region 19 with fail
         rw [← hW8]
         replace hW8:=Hd hW8
         go_wp2_with (at_builtin; go_loud (refine wpl_app1 rfl _ _ rfl w.heap.size qv _ t hoQ8 rfl rfl (by omega) hB8 ?_))
         intro qv' w9 ho9 b9 hal9
         obtain ⟨f9,hr9,h9,_⟩:=h8.out.push hr8'.out t ho9 hal9
         obtain ⟨q1,q2,q3,rfl⟩:=ho9.at.shape
         replace hr9:=Hd hr9
         replace ho9:=Hd ho9
         clear hal9 hoQ8
         go_wp2
         go_roundw
         case measure=>have:=hkl2.out; simp [intOf]; omega
         case rel=>exact ⟨k+1,f9,_,_,_,_,by have:=hkl2.out; omega,by go_num,rfl,hr9.out,b8.trans b9,h9,by simp; omega,hadd.out,hcadd.out,by rw [hrs.out,hpush.out htD (by rw [hct.out]; decide)]⟩
        ·obtain ⟨pc,rfl⟩:=Int.eq_ofNat_of_zero_le (show 0≤ct by omega)
         have htq:t∈q:=by
          apply Classical.byContradiction
          intro e
          exact hneg (hC1.out.1.2 (.inr e))
         have hsk:=hIn.out.skip (.inr ⟨htD,htq⟩)
         rw [← htk.out] at hsk
         replace hsk:=Hd hsk
         replace htq:=Hd htq
         go_upto_region 17 with fail
         refine wp_region_plan (fun w'=>w'.cell? tc=some (.int .i64 (pc:Nat))) 14 [(0,true),(1,true),(2,true),(3,true),(4,true),(5,true),(6,true),(7,true),(8,true),(9,true),(10,true),(11,true),(12,true),(13,true)] (by kernel_rfl) (by kernel_rfl) ?_
         have hS:wp'.drew.cell? tc=some (.int .i64 (pc:Nat)):=cC
         refine pqY 61 hS ?_
         refine pqY 62 hS ?_
         refine pqY 63 hS ?_
         refine pqY 64 hS ?_
         refine pqY 65 hS ?_
         refine pqY 66 hS ?_
         refine pqY 67 hS ?_
         refine pqY 68 hS ?_
         refine pqY 69 hS ?_
         refine pqY 70 hS ?_
         refine pqY 71 hS ?_
         refine pqY 72 hS ?_
         refine pqY 73 hS ?_
         refine pqY 74 hS ?_
         refine head0 ?_
         simp only [List.drop_succ_cons,List.drop_zero]
         clear hS
         go_wp2
         refine NoPanic.normal ?_
         go_upto_region 20 with fail
         refine wp_region_plan (fun _=>True) 10 [(0,true),(1,true),(2,true),(3,true),(4,true),(5,true),(6,true),(7,true),(8,true),(9,true)] (by kernel_rfl) (by kernel_rfl) ?_
         have hS:True:=trivial
         refine pqY 84 hS ?_
         refine pqY 85 hS ?_
         refine pqY 86 hS ?_
         refine pqY 87 hS ?_
         refine pqY 88 hS ?_
         refine pqY 89 hS ?_
         refine pqY 90 hS ?_
         refine pqY 91 hS ?_
         refine pqN 92 hS ?_
         refine pqY 93 hS ?_
         refine head0 ?_
         simp only [List.drop_succ_cons,List.drop_zero]
         clear hS
         go_wp2
         refine NoPanic.normal ?_
         go_wp2
         go_roundw
         case measure=>have:=hkl2.out; simp [intOf]; omega
         case rel=>exact ⟨k+1,f3,_,came,q,D,by have:=hkl2.out; omega,by go_num,rfl,hr3.out.drew.drew,b3.drew.drew,hF3.out,hjq,hsk.out,hC.out,by rw [hrs.out,hskip.out (.inr (by rw [hct.out]; omega))]⟩
      ·obtain rfl:k=L.length:=by omega
       rw [List.take_length] at hIn
       have hout:=hIn.leave hL.out.symm
       have hst2:stM i (pairL K i T) (j+1)=(came,q):=by rw [stM_succ hstv.out,hL.out,hrm]
       have hnh2:∀ z,z<j+1→NoHit i (pairL K i T) z:=fun z hz=>by
        by_cases e:z=j
        ·subst e
         intro v' hv' t ht htD
         rw [hstv.out] at hv'
         obtain rfl:=Option.some.inj hv'
         rw [hL.out] at ht
         exact (hIn.now t ht).2 htD
        ·exact hnh.out z (by omega)
       replace hst2:=Hd hst2
       replace hnh2:=Hd hnh2
       replace hout:=Hd hout
       replace hIn:=Hd hIn
       replace hr3:=Hd hr3
       replace hF3:=Hd hF3
       replace hC:=Hd hC
       go_wp2
       go_roundw
       case measure=>simp [intOf]; omega
       case rel=>exact ⟨j+1,f3,_,came,q,D,by omega,by go_num,rfl,hr3.out,b3,hF3.out,hout.out,hC.out,hst2.out,hnh2.out⟩
    ·obtain rfl:j=q.length:=by omega
     have hno:=hO.none (Nat.le_refl _)
     replace hno:=Hd hno
     replace hr2:=Hd hr2
     replace hF2:=Hd hF2
     replace hO:=Hd hO
     replace hC:=Hd hC
     replace hOQ:=Hd hOQ
     go_wp2
     go_ret
     exact ⟨_,rfl,b2,.inr ⟨rfl,hno.out⟩⟩
end Go.Proofs.YtkaoebokbfcmhaaGreatDoor
namespace Go.Proofs.YtkaoebokbfcmhaaGreatDoor
open Go.RowKit
set_option maxRecDepth 100000
theorem Rows.push {B:Nat} {w w1:World} {f:Names} {i:Nat×Nat} {v v':Value} {xs:List Int} (h:Rows B w f) (hi:f i=some (rowI v xs)) (x:Int) (ho:OwnI B w1 v' (xs++[x]))
 (hg:w.grownBy w1 v.ownBlock) (hal:v'.ownBlock=v.ownBlock∨∃ k,v'.ownBlock=some k∧w.heap.size≤k):Rows B w1 (upd f i (some (rowI v' (xs++[x])))) :=
 h.grown (r':=rowI v' (xs++[x])) hi hg ho hal
theorem alongW_snoc (K m:Nat) (F:Nat→Nat) (l:List Nat) (p:Nat) (hl:l≠[]):alongW K m F (l++[p])=alongW K m F l++[((F p%K:Nat):Int)]:=by
 cases l with
 | nil=>exact absurd rfl hl
 | cons a l=>simp [alongW,List.getD]
theorem alongW_one (K m:Nat) (F:Nat→Nat) (p:Nat):alongW K m F [p]=digs K m (F p):=by simp [alongW,List.getD]
theorem pairs_wrong (r:Nat→Addr) (at_ n:Int) (w:World) (hg:Glob r w) (h1:1≤n) (h2:n≤11) :
 Calls Tryz.prog 152 #[.int .i64 at_,.int .i64 n] w (Ret1 (fun v w'=>ErrIs r w' (fresh sPairs at_ n) v) w):=by
 go_enter Tryz.func152,Tryz.ntmps152
 go_wp2_with fail
 refine (new_any r _ at_ n w hg h1 h2).mono ?_
 rintro e w' ⟨v,rfl,hb,he⟩
 go_wp2
 go_ret
 exact ⟨_,rfl,hb,he⟩
def AllFit (K N:Nat) (T:List Int) (ns:List Nat):Prop:=∀ i,i+1<ns.length→StepFits K N T (ns.getD i 0) (ns.getD (i+1) 0)
end Go.Proofs.YtkaoebokbfcmhaaGreatDoor
