/-
  Texts that the proof leans on.
-/
import Derived.Test.YtkaoebokbfcmhaaGreatDoorMWf4
import Derived.BigQuiet
import Derived.Deep.QuietTactic
import Derived.Deep.DeepCutAuto
import Derived.Deep.LoopGhost
import Derived.Ground.NamesProg
import Derived.Shelf.Bits.Mul64
import Derived.Maps.OwnSet
namespace Go.Proofs.YtkaoebokbfcmhaaGreatDoor
open Go.RowKit
set_option maxRecDepth 100000
def tab (n:Nat) (f:Nat→Nat):List Int:=(List.range n).map fun (v:Nat)=>(f v:Int)
def tabI (n:Nat) (f:Nat→Int):List Int:=(List.range n).map f
theorem tab_len (n:Nat) (f:Nat→Nat):(tab n f).length=n:=by simp [tab]
theorem tabI_len (n:Nat) (f:Nat→Int):(tabI n f).length=n:=by simp [tabI]
theorem tabI_get (n:Nat) (f:Nat→Int) (v:Nat) (hv:v<n):(tabI n f).getD v 0=f v:=by simp [tabI,List.getD,hv]
theorem tab_get (n:Nat) (f:Nat→Nat) (v:Nat) (hv:v<n):(tab n f).getD v 0=(f v:Int):=by simp [tab,List.getD,hv]
theorem tabI_upd (n:Nat) (f:Nat→Int) (v:Nat) (a:Int):(tabI n f).set v a=tabI n (updN f v a):=by
 apply List.ext_getElem
 ·simp [tabI]
 ·intro i h1 h2
  simp only [tabI,List.getElem_set,List.getElem_map,List.getElem_range,updN]
  by_cases e:v=i
  ·rw [if_pos e,if_pos e.symm]
  ·rw [if_neg e,if_neg (fun q=>e q.symm)]
theorem tab_upd (n:Nat) (f:Nat→Nat) (v a:Nat):(tab n f).set v (a:Int)=tab n (updN f v a):=by
 have h:=tabI_upd n (fun x=>(f x:Int)) v a
 show (tabI n fun x=>(f x:Int)).set v (a:Int)=_
 rw [h]
 unfold tab tabI
 apply List.map_congr_left
 intro x _
 by_cases e:x=v
 ·subst e; rw [updN_same,updN_same]
 ·rw [updN_other _ _ _ e,updN_other _ _ _ e]
def flatF (calls:List Nat) (idx:Nat→Nat):List Value:=calls.reverse.flatMap fun (v:Nat)=>[.int .i64 (v:Int),.int .i64 (idx v:Int)]
def upI (l:List Nat):List Int:=l.reverse.map fun (v:Nat)=>(v:Int)
theorem upI_len (l:List Nat):(upI l).length=l.length:=by simp [upI]
theorem upI_cons (v:Nat) (l:List Nat):upI (v::l)=upI l++[(v:Int)]:=by simp [upI]
theorem flatF_cons (v:Nat) (l:List Nat) (idx:Nat→Nat):flatF (v::l) idx=flatF l idx++[.int .i64 (v:Int),.int .i64 (idx v:Int)]:=by simp [flatF]
theorem flatF_len (l:List Nat) (idx:Nat→Nat):(flatF l idx).length=l.length*2:=by
 induction l with
 | nil=>rfl
 | cons v l ih=>rw [flatF_cons,List.length_append,ih]; simp; omega
theorem flatF_congr {l:List Nat} {f g:Nat→Nat} (h:∀ v∈l,f v=g v):flatF l f=flatF l g:=by
 induction l with
 | nil=>rfl
 | cons v l ih=>rw [flatF_cons,flatF_cons,ih fun x hx=>h x (List.mem_cons_of_mem _ hx),h v List.mem_cons_self]
theorem Rows.shrink {B:Nat} {w:World} {f:Names} {i:Nat×Nat} {E:TypeId} {size m g cap:Nat} {xs:List Value} (h:Rows B w f) (hi:f i=some ⟨E,size,.slice (some ⟨g,0,none⟩) (m+1) cap,m+1,xs⟩) :
 Rows B w (upd f i (some ⟨E,size,.slice (some ⟨g,0,none⟩) m cap,m,xs.take (m*size)⟩)):=by
 refine h.grown hi ⟨rfl,rfl,rfl,Nat.le_refl _,fun _ _ _=>rfl⟩ ?_ (.inl rfl)
 have ho:w.ownsRow B E size (.slice (some ⟨g,0,none⟩) (m+1) cap) (m+1) xs:=h.1 i _ hi
 have hl:=ho.1
 have hms:m*size≤(m+1)*size:=Nat.mul_le_mul_right _ (by omega)
 rcases ho.2 with ⟨e,_⟩ | ⟨g',cap',cur,e,hB,hg,hn,hm,hs,ht⟩
 ·cases e
 ·injection e with e1 e2 e3
  injection e1 with e1
  injection e1 with e1
  subst e1; subst e3
  refine ⟨by show (xs.take (m*size)).length=m*size; rw [List.length_take,hl]; omega,.inr ⟨g,cap,cur,rfl,hB,hg,by show m≤cap; omega,hm,hs,?_⟩⟩
  show cur.toList.take (m*size)=xs.take (m*size)
  rw [← ht,List.take_take,Nat.min_eq_left hms]
theorem run_appF (w:World) (B:Nat) (ty:TypeId) (v:Value) (m:Nat) (xs:List Value) (hown:w.ownsRow B 270 2 v m xs)
 (b:Nat) (y0 y1:Int) (hys:∀ (j:Nat) (u:Value),([Value.int .i64 y0,.int .i64 y1]:List Value)[j]?=some u→w.cell? ((⟨b,0,none⟩:Addr).add j)=some u) (hlen:m<1000000) (hB:B≤w.heap.size) :
 ∃ g n' c' w',(Builtin.append_ #[242,242] ty #[v,.slice (some ⟨b,0,none⟩) 1 1]).run Tryz.prog w=.ok (.slice (some ⟨g,0,none⟩) n' c') w'∧n'=m+1∧w'.ownsRow B 270 2 (.slice (some ⟨g,0,none⟩) (m+1) c') (m+1) (xs++[.int .i64 y0,.int .i64 y1]) ∧
  ((v.ownBlock=some g∧w.grownBy w' v.ownBlock)∨(g=w.heap.size∧w.grownBy w' none)):=by
 have ht:Tryz.prog.underlying 242=some (.slice 270):=by kernel_rfl
 obtain ⟨i,hi,hz0,hz1,hz2⟩:∃ i,Tryz.prog.info? 270=some i∧i.zero=some (.agg #[.int .i64 0,.int .i64 0])∧i.size=2∧i.bytes=16:=by
  have:(Tryz.prog.info? 270).map (fun i=>(i.zero,i.size,i.bytes))=some (some (.agg #[.int .i64 0,.int .i64 0]),2,16):=by kernel_rfl
  cases h:Tryz.prog.info? 270 with
  | none=>rw [h] at this; cases this
  | some i=>rw [h] at this; simp at this; exact ⟨i,rfl,this.1,this.2.1,this.2.2⟩
 have hzc:(Value.agg #[.int .i64 0,.int .i64 0]).cells=#[.int .i64 0,.int .i64 0]:=by rfl
 have hxl:=hown.1
 have big:∀ (old:Nat),old<m+1 →
  (w.drew.alloc (.cells (xs.toArray++[Value.int .i64 y0,.int .i64 y1].toArray++Builtin.zeroCells (Value.agg #[.int .i64 0,.int .i64 0]).cells (grownCap w (m+1) old 270-(m+1))) 270)).ownsRow B 270 2 (.slice (some ⟨w.heap.size,0,none⟩) (m+1) (grownCap w (m+1) old 270)) (m+1) (xs++[.int .i64 y0,.int .i64 y1]):=by
  intro old ho
  have hge:=grownCap_ge w (m+1) old 270
  have hcm:grownCap w (m+1) old 270≤maxLen:=grownCap_le_maxLen w _ old 270 (by unfold maxLen; omega)
  refine ⟨by simp [hxl]; omega,.inr ⟨w.heap.size,_,_,rfl,hB,heap_alloc_new w.drew _,hge,hcm,?_,?_⟩⟩
  ·simp only [Array.size_append,List.size_toArray,size_zeroCells,hzc,hxl]
   simp
   omega
  ·simp only [Array.toList_append]
   exact List.take_left' (by simp [hxl]; omega)
 have grw:∀ (oo:Obj),w.grownBy (w.drew.alloc oo) none:=fun oo=>⟨rfl,rfl,rfl,by simp,fun k hk _=>Below.heap_alloc w.drew oo k hk⟩
 rcases hown.2 with ⟨rfl,hn⟩ | ⟨g,cap,cur,rfl,hbg,hg,hnc,hcm,hcs,htake⟩
 ·subst hn
  obtain rfl:=List.length_eq_zero_iff.1 (show xs.length=0 by omega)
  have hr:=run_append_nil (P:=Tryz.prog) w 242 ty 270 i _ ht hi hz0 ⟨b,0,none⟩ 1 1 [.int .i64 y0,.int .i64 y1] (by rw [hz1]; rfl) hys (by omega) (by omega) (by rw [hz2]; decide)
  have hbg:=big 0 (by omega)
  simp only [List.nil_append,Array.empty_append,Nat.zero_add] at hbg hr
  exact ⟨_,_,_,_,hr,rfl,by simpa using hbg,.inr ⟨rfl,grw _⟩⟩
 ·by_cases hroom:m+1≤cap
  ·have hr:=run_append_room (P:=Tryz.prog) w 242 ty 270 i ht hi g m cap cur hg ⟨b,0,none⟩ 1 1 [.int .i64 y0,.int .i64 y1] (by rw [hz1]; rfl) hys (by simp [Value.oneCell']) hroom (by rw [hz1,hcs]; simp; omega)
   refine ⟨_,_,_,_,hr,rfl,⟨by simp [hxl]; omega,.inr ⟨g,cap,_,rfl,hbg,setRow_heap w g cur _ 270 _ hg,hroom,hcm,?_,?_⟩⟩,.inl ⟨rfl,⟨rfl,rfl,rfl,by simp,fun k _ hk=>setRow_other w g k _ (fun e=>hk (by simp [Value.ownBlock,e]))⟩⟩⟩
   ·simp only [List.size_toArray,List.length_append,List.length_take,List.length_drop,Array.length_toList,hz1,hcs]
    simp
    omega
   ·rw [hz1,htake]
    exact List.take_left' (by simp [hxl]; omega)
  ·have holds:∀ j u,xs[j]?=some u→w.cell? ((⟨g,0,none⟩:Addr).add j)=some u:=World.ownsRow.cells hown (g:=g) rfl
   have hr:=run_append_grow (P:=Tryz.prog) w 242 ty 270 i _ ht hi hz0 ⟨g,0,none⟩ m cap xs (by rw [hz1]; exact hxl) holds ⟨b,0,none⟩ 1 1 [.int .i64 y0,.int .i64 y1] (by rw [hz1]; rfl) hys (by omega) (by omega) (by
    rw [hz2]
    exact growslice_fits (by omega) (by
     calc (m+1)*16≤1000000*16:=Nat.mul_le_mul_right _ hlen
      _≤_:=by decide))
   exact ⟨_,_,_,_,hr,rfl,big cap (by omega),.inr ⟨rfl,grw _⟩⟩
theorem wpl_appF {w:World} {ops:Array Oper} {rest:List Oper} {o:Oper} {a:Act} {Q:Exit→Act→World→Prop} (hgd:o.guard=none) (s x:Operand)
 (ho:o.op=.call { callee:=.builtin .append,args:=#[s,x],argTypes:=#[242,242] })
 (B:Nat) (v:Value) (m:Nat) (xs:List Value) (y0 y1:Int) (b:Nat) (hown:w.ownsRow B 270 2 v m xs) (hs:a.eval s=v) (hx:a.eval x=.slice (some ⟨b,0,none⟩) 1 1) (hb:b=w.heap.size)
 (hlen:m<1000000) (hB:B≤w.heap.size)
 (h:∀ g c w',w'.ownsRow B 270 2 (.slice (some ⟨g,0,none⟩) (m+1) c) (m+1) (xs++[.int .i64 y0,.int .i64 y1])→((v.ownBlock=some g∧w.grownBy w' v.ownBlock)∨(w.heap.size≤g∧w.grownBy w' none))→wpList Tryz.prog ops Q rest (a.put o.dst (.slice (some ⟨g,0,none⟩) (m+1) c)) w') :
 wpList Tryz.prog ops Q (o::rest) a (w.alloc (.cells #[.int .i64 y0,.int .i64 y1] 270)):=by
 subst hb
 refine wpList_plain hgd fun K hK=>?_
 have hcells:∀ (j:Nat) (u:Value),([Value.int .i64 y0,.int .i64 y1]:List Value)[j]?=some u→(w.alloc (.cells #[.int .i64 y0,.int .i64 y1] 270)).cell? ((⟨w.heap.size,0,none⟩:Addr).add j)=some u:=by
  intro j u hj
  have hn:=heap_alloc_new w (.cells #[.int .i64 y0,.int .i64 y1] 270)
  match j,hj with
  | 0,hj=>simp at hj; subst hj; simp only [World.cell?,Addr.add,if_true]; rw [hn]; rfl
  | 1,hj=>simp at hj; subst hj; simp only [World.cell?,Addr.add,show ¬ (1=0) by decide,if_false]; rw [hn]; rfl
  | j+2,hj=>simp at hj
 obtain ⟨g,n',c',w',hr,rfl,h2,h3⟩:=run_appF (w.alloc (.cells #[.int .i64 y0,.int .i64 y1] 270)) B o.type v m xs (World.ownsRow.alloc hown _) w.heap.size y0 y1 hcells hlen (by simp; omega)
 unfold Oper.wp execOp
 simp only [ho,resolve,invoke,builtin,Sem.run_bind,Sem.run_pure,Result.andThen_ok,List.map_toArray,List.map_cons,List.map_nil,hs,hx]
 rw [hr]
 have hal:∀ row,w.grownBy (w.alloc (.cells #[.int .i64 y0,.int .i64 y1] 270)) row:=fun row=>World.grownBy_alloc w _ row
 rcases h3 with ⟨hv,hg⟩ | ⟨hk,hg⟩
 ·exact hK _ _ (h g c' w' h2 (.inl ⟨hv,(hal v.ownBlock).trans hg⟩))
 ·exact hK _ _ (h g c' w' h2 (.inr ⟨by rw [hk]; simp,(hal none).trans hg⟩))
structure SN (f:Names) (d:Nat) (nv lv fv pv ov cv:Value) (n:Nat) (S:TS):Prop where
 box:f (0,0)=some ⟨244,7,.slice (some ⟨d,0,none⟩) 1 1,1,[nv,lv,fv,ov,pv,cv,.int .i64 S.time]⟩
 low:f (1,0)=some (rowI lv (tab n S.low))
 fnd:f (2,0)=some (rowI fv (tab n S.found))
 opn:f (3,0)=some (rowI ov (upI S.opn))
 part:f (4,0)=some (rowI pv (tabI n S.part))
 calls:f (5,0)=some ⟨270,2,cv,S.calls.length,flatF S.calls S.idx⟩
section
variable {B:Nat} {w:World} {f:Names} {d:Nat} {nv lv fv pv ov cv:Value} {n:Nat} {S:TS}
theorem SN.cell (h:SN f d nv lv fv pv ov cv n S) (hr:Rows B w f) (k:Nat) (hk:k<7):w.cell? ⟨d,k,none⟩=[nv,lv,fv,ov,pv,cv,.int .i64 S.time][k]? :=
 hr.cell h.box (g:=d) (cap:=1) rfl k (by simp; omega)
theorem SN.frz (h:SN f d nv lv fv pv ov cv n S) (hr:Rows B w f) (k:Nat):w.frozen? ⟨d,k,none⟩=false:=hr.frozen h.box (g:=d) (cap:=1) rfl k
theorem SN.base (h:SN f d nv lv fv pv ov cv n S) (hr:Rows B w f):B≤d:=(hr.lt h.box d rfl).1
theorem SN.setTime (h:SN f d nv lv fv pv ov cv n S) (hr:Rows B w f) (t:Nat):∃ f',Rows B (w.setCell ⟨d,6,none⟩ (.int .i64 t)) f'∧SN f' d nv lv fv pv ov cv n { S with time:=t }:=by
 refine ⟨_,hr.set h.box (g:=d) (cap:=1) rfl 6 (.int .i64 t),⟨upd_same _ _ _,?_,?_,?_,?_,?_⟩⟩
 ·rw [upd_ne _ _ (by simp)]; exact h.low
 ·rw [upd_ne _ _ (by simp)]; exact h.fnd
 ·rw [upd_ne _ _ (by simp)]; exact h.opn
 ·rw [upd_ne _ _ (by simp)]; exact h.part
 ·rw [upd_ne _ _ (by simp)]; exact h.calls
theorem SN.setLow (h:SN f d nv lv fv pv ov cv n S) (hr:Rows B w f) (v:Nat) (hv:v<n) (t:Nat):∃ f',Rows B (w.setCell (valAt lv v) (.int .i64 t)) f'∧SN f' d nv lv fv pv ov cv n { S with low:=updN S.low v t }:=by
 have hs:=hr.setI h.low v (by rw [tab_len]; exact hv) (t:Int)
 rw [tab_upd] at hs
 refine ⟨_,hs,⟨?_,upd_same _ _ _,?_,?_,?_,?_⟩⟩
 ·rw [upd_ne _ _ (by simp)]; exact h.box
 ·rw [upd_ne _ _ (by simp)]; exact h.fnd
 ·rw [upd_ne _ _ (by simp)]; exact h.opn
 ·rw [upd_ne _ _ (by simp)]; exact h.part
 ·rw [upd_ne _ _ (by simp)]; exact h.calls
theorem SN.setFound (h:SN f d nv lv fv pv ov cv n S) (hr:Rows B w f) (v:Nat) (hv:v<n) (t:Nat):∃ f',Rows B (w.setCell (valAt fv v) (.int .i64 t)) f'∧SN f' d nv lv fv pv ov cv n { S with found:=updN S.found v t }:=by
 have hs:=hr.setI h.fnd v (by rw [tab_len]; exact hv) (t:Int)
 rw [tab_upd] at hs
 refine ⟨_,hs,⟨?_,?_,upd_same _ _ _,?_,?_,?_⟩⟩
 ·rw [upd_ne _ _ (by simp)]; exact h.box
 ·rw [upd_ne _ _ (by simp)]; exact h.low
 ·rw [upd_ne _ _ (by simp)]; exact h.opn
 ·rw [upd_ne _ _ (by simp)]; exact h.part
 ·rw [upd_ne _ _ (by simp)]; exact h.calls
theorem SN.setPart (h:SN f d nv lv fv pv ov cv n S) (hr:Rows B w f) (v:Nat) (hv:v<n) (t:Int):∃ f',Rows B (w.setCell (valAt pv v) (.int .i64 t)) f'∧SN f' d nv lv fv pv ov cv n { S with part:=updN S.part v t }:=by
 have hs:=hr.setI h.part v (by rw [tabI_len]; exact hv) t
 rw [tabI_upd] at hs
 refine ⟨_,hs,⟨?_,?_,?_,?_,upd_same _ _ _,?_⟩⟩
 ·rw [upd_ne _ _ (by simp)]; exact h.box
 ·rw [upd_ne _ _ (by simp)]; exact h.low
 ·rw [upd_ne _ _ (by simp)]; exact h.fnd
 ·rw [upd_ne _ _ (by simp)]; exact h.opn
 ·rw [upd_ne _ _ (by simp)]; exact h.calls
theorem grown_via {w':World} {row:Option Nat} (hg:w.grownBy w' row∨w.grownBy w' none):w.grownBy w' row:=by
 rcases hg with h | h
 ·exact h
 ·exact ⟨h.os,h.tape,h.output,h.size,fun k hk _=>h.block k hk (by simp)⟩
theorem SN.pushOpen (h:SN f d nv lv fv pv ov cv n S) (hr:Rows B w f) (hBw:B≤w.heap.size) {w1:World} {ov':Value} (v:Nat) (ho:OwnI B w1 ov' (upI S.opn++[(v:Int)]))
 (hal:(roomOf ov'=roomOf ov∧w.grownBy w1 ov.ownBlock)∨(∃ k,ov'.ownBlock=some k∧w.heap.size≤k∧w.grownBy w1 none)) :
 (∀ k,k<7→w1.cell? ⟨d,k,none⟩=[nv,lv,fv,ov,pv,cv,.int .i64 S.time][k]?)∧(∀ k,w1.frozen? ⟨d,k,none⟩=false)∧Below B w (w1.setCell ⟨d,3,none⟩ ov')∧∃ f',Rows B (w1.setCell ⟨d,3,none⟩ ov') f'∧SN f' d nv lv fv pv ov' cv n { S with opn:=v::S.opn }:=by
 have hO:=hr.ownI h.opn
 have hg:w.grownBy w1 ov.ownBlock:=grown_via (hal.imp (·.2) (fun ⟨_,_,_,q⟩=>q))
 have hob:ov'.ownBlock=ov.ownBlock∨∃ k,ov'.ownBlock=some k∧w.heap.size≤k:=by
  rcases hal with ⟨q,_⟩ | ⟨k,h1,h2,_⟩
  ·obtain ⟨a1,n1,c1,e1⟩:=hO.at.shape
   obtain ⟨a2,n2,c2,e2⟩:=ho.at.shape
   exact .inl (ownBlock_of_room e1 e2 q)
  ·exact .inr ⟨k,h1,h2⟩
 have h1:=hr.grown (r':=rowI ov' (upI S.opn++[(v:Int)])) h.opn hg ho hob
 have hb:upd f (3,0) (some (rowI ov' (upI S.opn++[(v:Int)]))) (0,0)=some ⟨244,7,.slice (some ⟨d,0,none⟩) 1 1,1,[nv,lv,fv,ov,pv,cv,.int .i64 S.time]⟩:=by rw [upd_ne _ _ (by simp)]; exact h.box
 refine ⟨fun k hk=>h1.cell hb (g:=d) (cap:=1) rfl k (by simpa using hk),fun k=>h1.frozen hb (g:=d) (cap:=1) rfl k,((Below.refl _ _).grown hg hBw (fun k hk=>(hO.lt k hk).1)).setCell (h.base hr) _,_,h1.set hb (g:=d) (cap:=1) rfl 3 ov',⟨upd_same _ _ _,?_,?_,?_,?_,?_⟩⟩
 ·rw [upd_ne _ _ (by simp),upd_ne _ _ (by simp)]; exact h.low
 ·rw [upd_ne _ _ (by simp),upd_ne _ _ (by simp)]; exact h.fnd
 ·rw [upd_ne _ _ (by simp),upd_same,upI_cons]
 ·rw [upd_ne _ _ (by simp),upd_ne _ _ (by simp)]; exact h.part
 ·rw [upd_ne _ _ (by simp),upd_ne _ _ (by simp)]; exact h.calls
theorem SN.pushCalls (h:SN f d nv lv fv pv ov cv n S) (hr:Rows B w f) (hBw:B≤w.heap.size) {w1:World} {g c:Nat} (v:Nat) (hv:v∉S.calls)
 (ho:w1.ownsRow B 270 2 (.slice (some ⟨g,0,none⟩) (S.calls.length+1) c) (S.calls.length+1) (flatF S.calls S.idx++[.int .i64 (v:Int),.int .i64 0]))
 (hal:(cv.ownBlock=some g∧w.grownBy w1 cv.ownBlock)∨(w.heap.size≤g∧w.grownBy w1 none)) :
 (∀ k,k<7→w1.cell? ⟨d,k,none⟩=[nv,lv,fv,ov,pv,cv,.int .i64 S.time][k]?)∧(∀ k,w1.frozen? ⟨d,k,none⟩=false)∧Below B w (w1.setCell ⟨d,5,none⟩ (.slice (some ⟨g,0,none⟩) (S.calls.length+1) c)) ∧
   ∃ f',Rows B (w1.setCell ⟨d,5,none⟩ (.slice (some ⟨g,0,none⟩) (S.calls.length+1) c)) f'∧SN f' d nv lv fv pv ov (.slice (some ⟨g,0,none⟩) (S.calls.length+1) c) n { S with calls:=v::S.calls,idx:=updN S.idx v 0 }:=by
 have hg:w.grownBy w1 cv.ownBlock:=grown_via (hal.imp (·.2) (·.2))
 have hob:(Value.slice (some ⟨g,0,none⟩) (S.calls.length+1) c).ownBlock=cv.ownBlock∨∃ k,(Value.slice (some ⟨g,0,none⟩) (S.calls.length+1) c).ownBlock=some k∧w.heap.size≤k:=by
  rcases hal with ⟨q,_⟩ | ⟨q,_⟩
  ·exact .inl q.symm
  ·exact .inr ⟨g,rfl,q⟩
 have h1:=hr.grown (r':=⟨270,2,.slice (some ⟨g,0,none⟩) (S.calls.length+1) c,S.calls.length+1,flatF S.calls S.idx++[Value.int .i64 (v:Int),Value.int .i64 0]⟩) h.calls hg (show Row.own B w1 ⟨_,_,_,_,_⟩ from ho) hob
 have hb:upd f (5,0) (some ⟨270,2,.slice (some ⟨g,0,none⟩) (S.calls.length+1) c,S.calls.length+1,flatF S.calls S.idx++[Value.int .i64 (v:Int),Value.int .i64 0]⟩) (0,0)=some ⟨244,7,.slice (some ⟨d,0,none⟩) 1 1,1,[nv,lv,fv,ov,pv,cv,.int .i64 S.time]⟩:=by rw [upd_ne _ _ (by simp)]; exact h.box
 refine ⟨fun k hk=>h1.cell hb (g:=d) (cap:=1) rfl k (by simpa using hk),fun k=>h1.frozen hb (g:=d) (cap:=1) rfl k,((Below.refl _ _).grown hg hBw (fun k hk=>(hr.lt h.calls k hk).1)).setCell (h.base hr) _,_,h1.set hb (g:=d) (cap:=1) rfl 5 (.slice (some ⟨g,0,none⟩) (S.calls.length+1) c),⟨upd_same _ _ _,?_,?_,?_,?_,?_⟩⟩
 ·rw [upd_ne _ _ (by simp),upd_ne _ _ (by simp)]; exact h.low
 ·rw [upd_ne _ _ (by simp),upd_ne _ _ (by simp)]; exact h.fnd
 ·rw [upd_ne _ _ (by simp),upd_ne _ _ (by simp)]; exact h.opn
 ·rw [upd_ne _ _ (by simp),upd_ne _ _ (by simp)]; exact h.part
 ·rw [upd_ne _ _ (by simp),upd_same]
  simp only [flatF_cons,updN_same,List.length_cons]
  rw [flatF_congr (f:=updN S.idx v 0) (g:=S.idx) (fun x hx=>updN_other _ _ _ (fun e=>hv (by rw [← e]; exact hx)))]
  rfl
theorem SN.popOpen {v:Nat} {r:List Nat} {g c:Nat} (h:SN f d nv lv fv pv (.slice (some ⟨g,0,none⟩) (r.length+1) c) cv n S) (he:S.opn=v::r) (hr:Rows B w f) :
 ∃ f',Rows B (w.setCell ⟨d,3,none⟩ (.slice (some ⟨g,0,none⟩) r.length c)) f'∧SN f' d nv lv fv pv (.slice (some ⟨g,0,none⟩) r.length c) cv n { S with opn:=r }:=by
 have ho:=h.opn
 rw [he] at ho
 have ho':f (3,0)=some ⟨3,1,.slice (some ⟨g,0,none⟩) (r.length+1) c,r.length+1,(upI (v::r)).map (Value.int .i64)⟩:=by
  rw [ho]; simp [rowI,upI_len]
 have h1:=hr.shrink ho'
 have hx:((upI (v::r)).map (Value.int .i64)).take (r.length*1)=(upI r).map (Value.int .i64):=by
  rw [upI_cons,List.map_append,Nat.mul_one]; exact List.take_left' (by simp [upI_len])
 rw [hx] at h1
 refine ⟨_,h1.set (i:=(0,0)) (by rw [upd_ne _ _ (by simp)]; exact h.box) (g:=d) (cap:=1) rfl 3 (.slice (some ⟨g,0,none⟩) r.length c),⟨upd_same _ _ _,?_,?_,?_,?_,?_⟩⟩
 ·rw [upd_ne _ _ (by simp),upd_ne _ _ (by simp)]; exact h.low
 ·rw [upd_ne _ _ (by simp),upd_ne _ _ (by simp)]; exact h.fnd
 ·rw [upd_ne _ _ (by simp),upd_same]; simp [upI_len]
 ·rw [upd_ne _ _ (by simp),upd_ne _ _ (by simp)]; exact h.part
 ·rw [upd_ne _ _ (by simp),upd_ne _ _ (by simp)]; exact h.calls
theorem SN.popCalls {v:Nat} {r:List Nat} {g c:Nat} (h:SN f d nv lv fv pv ov (.slice (some ⟨g,0,none⟩) (r.length+1) c) n S) (he:S.calls=v::r) (hr:Rows B w f) :
 ∃ f',Rows B (w.setCell ⟨d,5,none⟩ (.slice (some ⟨g,0,none⟩) r.length c)) f'∧SN f' d nv lv fv pv ov (.slice (some ⟨g,0,none⟩) r.length c) n { S with calls:=r }:=by
 have ho:=h.calls
 rw [he] at ho
 have h1:=hr.shrink ho
 have hx:(flatF (v::r) S.idx).take (r.length*2)=flatF r S.idx:=by
  rw [flatF_cons]; exact List.take_left' (flatF_len _ _)
 rw [hx] at h1
 refine ⟨_,h1.set (i:=(0,0)) (by rw [upd_ne _ _ (by simp)]; exact h.box) (g:=d) (cap:=1) rfl 5 (.slice (some ⟨g,0,none⟩) r.length c),⟨upd_same _ _ _,?_,?_,?_,?_,?_⟩⟩
 ·rw [upd_ne _ _ (by simp),upd_ne _ _ (by simp)]; exact h.low
 ·rw [upd_ne _ _ (by simp),upd_ne _ _ (by simp)]; exact h.fnd
 ·rw [upd_ne _ _ (by simp),upd_ne _ _ (by simp)]; exact h.opn
 ·rw [upd_ne _ _ (by simp),upd_ne _ _ (by simp)]; exact h.part
 ·rw [upd_ne _ _ (by simp),upd_same]
theorem SN.bump {v:Nat} {r:List Nat} {g c:Nat} (h:SN f d nv lv fv pv ov (.slice (some ⟨g,0,none⟩) (r.length+1) c) n S) (he:S.calls=v::r) (hv:v∉r) (hr:Rows B w f) (i:Nat) :
 ∃ f',Rows B (w.setCell ⟨g,r.length*2+1,none⟩ (.int .i64 (i:Int))) f'∧SN f' d nv lv fv pv ov (.slice (some ⟨g,0,none⟩) (r.length+1) c) n { S with idx:=updN S.idx v i }:=by
 have ho:=h.calls
 rw [he] at ho
 have hs:=hr.set ho (g:=g) (cap:=c) rfl (r.length*2+1) (.int .i64 (i:Int))
 refine ⟨_,hs,⟨?_,?_,?_,?_,?_,?_⟩⟩
 ·rw [upd_ne _ _ (by simp)]; exact h.box
 ·rw [upd_ne _ _ (by simp)]; exact h.low
 ·rw [upd_ne _ _ (by simp)]; exact h.fnd
 ·rw [upd_ne _ _ (by simp)]; exact h.opn
 ·rw [upd_ne _ _ (by simp)]; exact h.part
 ·rw [upd_same,he]
  simp only [flatF_cons,updN_same,List.length_cons]
  rw [List.set_append_right _ _ (by rw [flatF_len]; omega),flatF_len,show r.length*2+1-r.length*2=1 by omega,
   flatF_congr (f:=updN S.idx v i) (g:=S.idx) (fun x hx=>updN_other _ _ _ (fun e=>hv (by rw [← e]; exact hx)))]
  rfl
theorem SN.callTop {v:Nat} {r:List Nat} {g c:Nat} (h:SN f d nv lv fv pv ov (.slice (some ⟨g,0,none⟩) (r.length+1) c) n S) (he:S.calls=v::r) (hr:Rows B w f) :
 w.cell? ⟨g,r.length*2,none⟩=some (.int .i64 (v:Int))∧w.cell? ⟨g,r.length*2+1,none⟩=some (.int .i64 (S.idx v:Int))∧w.frozen? ⟨g,r.length*2+1,none⟩=false:=by
 have ho:=h.calls
 rw [he] at ho
 refine ⟨?_,?_,hr.frozen ho (g:=g) (cap:=c) rfl _⟩
 ·rw [hr.cell ho (g:=g) (cap:=c) rfl _ (by simp only [List.length_cons]; omega),flatF_cons,List.getElem?_append_right (by rw [flatF_len]; omega),flatF_len,Nat.sub_self]; rfl
 ·rw [hr.cell ho (g:=g) (cap:=c) rfl _ (by simp; omega),flatF_cons,List.getElem?_append_right (by rw [flatF_len]; omega),flatF_len,show r.length*2+1-r.length*2=1 by omega]; rfl
theorem row_shape {E:TypeId} {size m:Nat} {v:Value} {xs:List Value} (h:w.ownsRow B E size v m xs) (hm:0<m):∃ g c,v=.slice (some ⟨g,0,none⟩) m c∧m≤c:=by
 rcases h.2 with ⟨_,e⟩ | ⟨g,cap,cur,e,_,_,hn,_⟩
 ·omega
 ·exact ⟨g,cap,e,hn⟩
theorem SN.callsShape (h:SN f d nv lv fv pv ov cv n S) (hr:Rows B w f) (hc:S.calls≠[]):∃ g c,cv=.slice (some ⟨g,0,none⟩) S.calls.length c∧S.calls.length≤c :=
 row_shape (hr.1 _ _ h.calls) (List.length_pos_iff.2 hc)
theorem SN.opnShape (h:SN f d nv lv fv pv ov cv n S) (hr:Rows B w f) (hc:S.opn≠[]):∃ g c,ov=.slice (some ⟨g,0,none⟩) S.opn.length c∧S.opn.length≤c:=by
 have:=row_shape (hr.1 _ _ h.opn) (by show 0<(upI S.opn).length; rw [upI_len]; exact List.length_pos_iff.2 hc)
 obtain ⟨g,c,e,e2⟩:=this
 have e:ov=.slice (some ⟨g,0,none⟩) (upI S.opn).length c:=e
 have e2:(upI S.opn).length≤c:=e2
 rw [upI_len] at e e2
 exact ⟨g,c,e,e2⟩
theorem SN.opnNil {adj:Nat→List Nat} (_h:SN f d nv lv fv pv ov cv n S) (hI:TInv n adj S) (hc:S.calls=[]):S.opn=[]:=hI.opn_nil hc
theorem SN.callsLen (h:SN f d nv lv fv pv ov cv n S) (hr:Rows B w f):∃ a c,cv=.slice a S.calls.length c:=by
 rcases (hr.1 _ _ h.calls).2 with ⟨e,e2⟩ | ⟨g,cap,cur,e,_⟩
 ·have e2:S.calls.length=0:=e2
  have e:cv=.slice none 0 0:=e
  exact ⟨none,0,by rw [e,e2]⟩
 ·exact ⟨_,_,e⟩
end
set_option maxHeartbeats 8000000
def SPost (B:Nat) (w:World) (d:Nat) (nv lv fv pv:Value) (n:Nat) (S:TS) (e:Ending) (w':World):Prop :=
 e=.returned (.tuple #[])∧Below B w w'∧∃ f' ov' cv',Rows B w' f'∧SN f' d nv lv fv pv ov' cv' n S
theorem enter_any (B:Nat) (w:World) (f:Names) (d:Nat) (nv lv fv pv ov cv:Value) (n:Nat) (S:TS) (v:Nat) (hr:Rows B w f) (h:SN f d nv lv fv pv ov cv n S) (hB:B≤w.heap.size)
 (hv:v<n) (hnc:v∉S.calls) (ho:S.opn.length<10000) (hcl:S.calls.length<10000) (ht:S.time<100000) :
 Calls Tryz.prog 186 #[.pointer (some ⟨d,0,none⟩),.int .i64 v] w (SPost B w d nv lv fv pv n (enterS S v)):=by
 have e1:((S.time+1:Nat):Int)=(S.time:Int)+1:=by omega
 have z6:=h.cell hr 6 (by decide)
 have f6:=h.frz hr 6
 obtain ⟨f1,hr1,h1⟩:=h.setTime hr (S.time+1)
 have b1:Below B w (w.setCell ⟨d,6,none⟩ (.int .i64 ((S.time+1:Nat):Int))):=(Below.refl B w).setCell (h.base hr) _
 rw [e1] at hr1 b1
 simp only [List.getElem?_cons_succ,List.getElem?_cons_zero] at z6
 replace hr1:=Hd hr1
 replace hr:=Hd hr
 replace e1:=Hd e1
 go_enter Tryz.func186,Tryz.ntmps186
 go_wp2
 clear z6 f6
 refine wp_region_plan (fun w'=>w'.cell? ⟨d,1,none⟩=some lv∧w'.cell? ⟨d,2,none⟩=some fv∧w'.cell? ⟨d,6,none⟩=some (.int .i64 ((S.time:Int)+1))) 21 [(0,true),(1,true),(2,true),(3,true),(4,true),(5,true),(6,true),(7,true),(8,true),(9,true),(10,true),(11,true),(12,true),(13,true),(14,true),(15,true),(16,true),(17,true),(18,true),(19,false),(20,true)] (by kernel_rfl) (by kernel_rfl) ?_
 obtain ⟨W,hW⟩:∃ W:World,W=(w.setCell ⟨d,6,none⟩ (.int .i64 ((S.time:Int)+1))).drew:=⟨_,rfl⟩
 rw [← hW]
 have hrW:Rows B W f1:=by rw [hW]; exact hr1.out.drew
 have bW:Below B w W:=by rw [hW]; exact b1.drew
 clear hW
 have hS:W.cell? ⟨d,1,none⟩=some lv∧W.cell? ⟨d,2,none⟩=some fv∧W.cell? ⟨d,6,none⟩=some (.int .i64 ((S.time:Int)+1)):=⟨h1.cell hrW 1 (by decide),h1.cell hrW 2 (by decide),by rw [← e1.out]; exact h1.cell hrW 6 (by decide)⟩
 have oL:=hrW.ownI h1.low
 have oF:=hrW.ownI h1.fnd
 have iL:=fun w'=>oL.at.idx v (by rw [tab_len]; exact hv) w'
 have iF:=fun w'=>oF.at.idx v (by rw [tab_len]; exact hv) w'
 have cL:=oL.at.cellD v (by rw [tab_len]; exact hv)
 have fL:=oL.frz v (by rw [tab_len]; exact hv)
 have kL:=(oL.toV.blkB v (by rw [List.length_map,tab_len]; exact hv)).2
 obtain ⟨f2,hr2,h2⟩:=h1.setLow hrW v hv (S.time+1)
 rw [e1.out] at hr2
 have oF2:=hr2.ownI h2.fnd
 have cF:=oF2.at.cellD v (by rw [tab_len]; exact hv)
 have fF:=oF2.frz v (by rw [tab_len]; exact hv)
 have kF:=(oF2.toV.blkB v (by rw [List.length_map,tab_len]; exact hv)).2
 have hS2:(W.setCell (valAt lv v) (.int .i64 ((S.time:Int)+1))).cell? ⟨d,1,none⟩=some lv∧(W.setCell (valAt lv v) (.int .i64 ((S.time:Int)+1))).cell? ⟨d,2,none⟩=some fv∧(W.setCell (valAt lv v) (.int .i64 ((S.time:Int)+1))).cell? ⟨d,6,none⟩=some (.int .i64 ((S.time:Int)+1)):=⟨h2.cell hr2 1 (by decide),h2.cell hr2 2 (by decide),by rw [← e1.out]; exact h2.cell hr2 6 (by decide)⟩
 obtain ⟨f3,hr3,h3⟩:=h2.setFound hr2 v hv (S.time+1)
 rw [e1.out] at hr3
 have b3:Below B w ((W.setCell (valAt lv v) (.int .i64 ((S.time:Int)+1))).setCell (valAt fv v) (.int .i64 ((S.time:Int)+1))):=(bW.setCell kL _).setCell kF _
 replace hr3:=Hd hr3
 replace hr2:=Hd hr2
 replace hrW:=Hd hrW
 clear oL oF oF2
 generalize valAt lv v=la at *
 generalize valAt fv v=fa at *
 refine pqY 11 hS ?_
 refine pqY 12 hS ?_
 refine pqY 13 hS ?_
 refine pqY 14 hS ?_
 refine pqY 15 hS ?_
 refine pqY 16 hS ?_
 refine pqY 17 hS ?_
 refine pqY 18 hS ?_
 refine pqY 19 hS ?_
 refine pqY 20 hS ?_
 refine pqY 21 hS ?_
 refine pqY 22 hS ?_
 refine pqY 23 hS ?_
 refine pqY 24 hS ?_
 refine pqY 25 hS ?_
 refine pqY 26 hS ?_
 refine pqY 27 hS ?_
 refine pqY 28 hS ?_
 refine pqY 29 hS ?_
 refine headC rfl (fun KK hK=>?_)
 -- CALL 19 slot none
 go_simp
 refine hK _ _ hS2 ?_
 clear hK KK
 refine pqY 30 hS2 ?_
 refine head0 ?_
 simp only [List.drop_succ_cons,List.drop_zero]
 clear hS hS2 cL fL
 go_wp2
 refine NoPanic.normal ?_
 obtain ⟨W3,hW3⟩:∃ W3:World,W3=(W.setCell la (.int .i64 ((S.time:Int)+1))).setCell fa (.int .i64 ((S.time:Int)+1)):=⟨_,rfl⟩
 rw [← hW3]
 rw [← hW3] at hr3 b3
 clear hW3 iL iF cF fF
 have z3:=h3.cell hr3.out 3 (by decide)
 simp only [List.getElem?_cons_succ,List.getElem?_cons_zero] at z3
 have oO:=hr3.out.ownI h3.opn
 have hB3:B≤W3.heap.size:=Nat.le_trans hB b3.size
 go_wp2_with (at_builtin; refine wpl_app1 rfl _ _ rfl B ov (upI S.opn) v oO rfl rfl (by rw [upI_len]; omega) hB3 ?_)
 intro ov' w4 ho4 b4 hal
 obtain ⟨y3,g3,b5,f5,hr5,h5⟩:=h3.pushOpen hr3.out hB3 v ho4 hal
 obtain ⟨oa,on,oc,rfl⟩:=ho4.at.shape
 have z5:=y3 5 (by decide)
 simp only [List.getElem?_cons_succ,List.getElem?_cons_zero] at z5
 have z33:=y3 3 (by decide)
 simp only [List.getElem?_cons_succ,List.getElem?_cons_zero] at z33
 have g33:=g3 3
 replace y3:=Hd y3
 replace g3:=Hd g3
 replace hr5:=Hd hr5
 clear ho4 hal z3 oO
 have oC:=hr5.out.1 _ _ h5.calls
 go_wp2_with (at_builtin; go_loud (refine wpl_appF rfl _ _ rfl B cv S.calls.length _ v 0 _ oC rfl rfl (by simp) (by omega) (Nat.le_trans hB3 b5.size) ?_))
 intro g c w6 ho6 hal6
 obtain ⟨y5,g5,b7,f7,hr7,h7⟩:=h5.pushCalls hr5.out (Nat.le_trans hB3 b5.size) v hnc ho6 (hal6.imp id (fun ⟨a,b⟩=>⟨by simpa using a,b⟩))
 have z5:=y5 5 (by decide)
 simp only [List.getElem?_cons_succ,List.getElem?_cons_zero] at z5
 have g55:=g5 5
 replace y5:=Hd y5
 replace g5:=Hd g5
 replace hr7:=Hd hr7
 clear ho6 hal6 oC
 go_wp2
 go_end0
 exact ⟨rfl,(b3.trans b5).trans b7,f7,_,_,hr7.out,h7⟩
theorem upI_top (t:Nat) (o:List Nat):(upI (t::o)).getD o.length 0=(t:Int):=by
 rw [upI_cons,List.getD_eq_getElem?_getD,List.getElem?_append_right (by rw [upI_len]; exact Nat.le_refl _),upI_len,Nat.sub_self]; rfl
theorem leave_any (B:Nat) (w:World) (f:Names) (d:Nat) (nv lv fv pv ov cv:Value) (n:Nat) (adj:Nat→List Nat) (S:TS) (v:Nat) (r:List Nat) (hr:Rows B w f) (h:SN f d nv lv fv pv ov cv n S)
 (hI:TInv n adj S) (hc:S.calls=v::r) (hn:n≤8192) :
 Calls Tryz.prog 187 #[.pointer (some ⟨d,0,none⟩),.int .i64 v] w (SPost B w d nv lv fv pv n (leaveS S v r)):=by
 have hvc:v∈S.calls:=by rw [hc]; exact List.mem_cons_self
 have hvn:=hI.seenLt v (hI.callsSeen hvc).1
 have hvo:=hI.callsOpen v hvc
 have hol:∀ x∈S.opn,x<n:=fun x hx=>hI.seenLt x ((hI.opnIff x).1 hx).1
 have hlq:=hI.low_eq hc
 obtain ⟨g,c,rfl,hcap⟩:=h.callsShape hr (by rw [hc]; simp)
 rw [hc,List.length_cons] at h hcap
 have hrl:=hI.calls_len
 rw [hc,List.length_cons] at hrl
 have hwr:IntKind.i64.wrap (r.length:Int)=r.length:=wrapK (by omega) (by omega)
 obtain ⟨W,hW⟩:∃ W:World,W=w.drew:=⟨_,rfl⟩
 have hr0:Rows B W f:=by rw [hW]; exact hr.drew
 obtain ⟨f1,hr1,h1⟩:=h.popCalls hc hr0
 have z5:=h.cell hr0 5 (by decide)
 have g5:=h.frz hr0 5
 simp only [List.getElem?_cons_succ,List.getElem?_cons_zero] at z5
 have b1:Below B w (W.setCell ⟨d,5,none⟩ (.slice (some ⟨g,0,none⟩) r.length c)):=by rw [hW]; exact (Below.refl B w).drew.setCell (h.base hr) _
 have hsl:(0≤(r.length:Int)∧(r.length:Int)≤(c:Int)):=⟨by omega,by omega⟩
 replace hr1:=Hd hr1
 replace hr:=Hd hr
 replace hr0:=Hd hr0
 replace hol:=Hd hol
 replace hI:=Hd hI
 replace hvo:=Hd hvo
 replace hvc:=Hd hvc
 replace hc:=Hd hc
 replace hlq:=Hd hlq
 go_enter Tryz.func187,Tryz.ntmps187
 go_wp2
 refine wp_region_plan (fun w'=>w'.cell? ⟨d,5,none⟩=some (.slice (some ⟨g,0,none⟩) (r.length+1) c)) 14 [(0,true),(1,true),(2,true),(3,true),(4,true),(5,true),(6,true),(7,true),(8,true),(9,true),(10,true),(11,true),(12,true),(13,true)] (by kernel_rfl) (by kernel_rfl) ?_
 rw [← hW]
 clear hW
 have hS:W.cell? ⟨d,5,none⟩=some (.slice (some ⟨g,0,none⟩) (r.length+1) c):=z5
 refine pqY 7 hS ?_
 refine pqY 8 hS ?_
 refine pqY 9 hS ?_
 refine pqY 10 hS ?_
 refine pqY 11 hS ?_
 refine pqY 12 hS ?_
 refine pqY 13 hS ?_
 refine pqY 14 hS ?_
 refine pqY 15 hS ?_
 refine pqY 16 hS ?_
 refine pqY 17 hS ?_
 refine pqY 18 hS ?_
 refine pqY 19 hS ?_
 refine pqY 20 hS ?_
 refine head0 ?_
 simp only [List.drop_succ_cons,List.drop_zero]
 clear hS
 go_wp2
 refine NoPanic.normal ?_
 obtain ⟨W1,hW1⟩:∃ W1:World,W1=W.setCell ⟨d,5,none⟩ (.slice (some ⟨g,0,none⟩) r.length c):=⟨_,rfl⟩
 rw [← hW1]
 rw [← hW1] at hr1 b1
 clear hW1 z5 g5
 have x5:=h1.cell hr1.out 5 (by decide)
 simp only [List.getElem?_cons_succ,List.getElem?_cons_zero] at x5
 go_upto_if 27 with fail
 go_cut [] from 4 (fun wx=>Below B w wx∧∃ f2,Rows B wx f2∧SN f2 d nv lv fv pv ov (.slice (some ⟨g,0,none⟩) r.length c) n { S with low:=lowS S.low v r,calls:=r })
 case first =>
  cases r with
  | nil =>
   go_wp2
   go_meet
   case rel=>exact ⟨b1,f1,hr1.out,h1⟩
  | cons u r' =>
   have huc:=hI.out.callsSeen (c:=u) (by rw [hc.out]; simp)
   have hun:=hI.out.seenLt u huc.1
   simp only [List.length_cons] at h1 hrl x5 hcap hwr b1 hr1
   obtain ⟨t0,t1,_⟩:=h1.callTop rfl hr1.out
   have hwr2:IntKind.i64.wrap (r'.length:Int)=r'.length:=wrapK (by omega) (by omega)
   have hp0:0<(u::r').length:=by simp
   have hne:u≠v:=fun e=>by
    have:=hI.out.callsSorted
    rw [hc.out,e] at this
    exact absurd ((List.pairwise_cons.1 this).1 v List.mem_cons_self) (Nat.lt_irrefl _)
   go_upto_region 4 with fail
   refine wp_region_plan (fun w'=>w'.cell? ⟨d,1,none⟩=some lv∧w'.cell? (valAt lv u)=some (.int .i64 (S.low u))∧w'.cell? (valAt lv v)=some (.int .i64 (S.low v))) 21 [(0,true),(1,true),(2,true),(3,true),(4,true),(5,true),(6,true),(7,true),(8,true),(9,true),(10,true),(11,true),(12,true),(13,true),(14,true),(15,true),(16,true),(17,true),(18,true),(19,false),(20,true)] (by kernel_rfl) (by kernel_rfl) ?_
   obtain ⟨W2,hW2⟩:∃ W2:World,W2=W1.drew:=⟨_,rfl⟩
   rw [← hW2]
   have hr2:Rows B W2 f1:=by rw [hW2]; exact hr1.out.drew
   have b2:Below B w W2:=by rw [hW2]; exact b1.drew
   clear hW2 t0 t1 x5
   have oL:=hr2.ownI h1.low
   have cU:=oL.at.cellD u (by rw [tab_len]; exact hun)
   have cV:=oL.at.cellD v (by rw [tab_len]; exact hvn)
   rw [tab_get _ _ _ hun] at cU
   rw [tab_get _ _ _ hvn] at cV
   have hS:W2.cell? ⟨d,1,none⟩=some lv∧W2.cell? (valAt lv u)=some (.int .i64 (S.low u))∧W2.cell? (valAt lv v)=some (.int .i64 (S.low v)):=⟨h1.cell hr2 1 (by decide),cU,cV⟩
   have iU:=fun w'=>oL.at.idx u (by rw [tab_len]; exact hun) w'
   have iV:=fun w'=>oL.at.idx v (by rw [tab_len]; exact hvn) w'
   have fU:=oL.frz u (by rw [tab_len]; exact hun)
   have kU:=(oL.toV.blkB u (by rw [List.length_map,tab_len]; exact hun)).2
   obtain ⟨f3,hr3,h3⟩:=h1.setLow hr2 u hun (min (S.low u) (S.low v))
   have b3:Below B w (W2.setCell (valAt lv u) (.int .i64 ((min (S.low u) (S.low v):Nat):Int))):=b2.setCell kU _
   replace hr3:=Hd hr3
   replace hr2:=Hd hr2
   clear oL
   generalize valAt lv u=ua at *
   generalize valAt lv v=va at *
   refine pqY 37 hS ?_
   refine pqY 38 hS ?_
   refine pqY 39 hS ?_
   refine pqY 40 hS ?_
   refine pqY 41 hS ?_
   refine pqY 42 hS ?_
   refine pqY 43 hS ?_
   refine pqY 44 hS ?_
   refine pqY 45 hS ?_
   refine pqY 46 hS ?_
   refine pqY 47 hS ?_
   refine pqY 48 hS ?_
   refine pqY 49 hS ?_
   refine pqY 50 hS ?_
   refine pqY 51 hS ?_
   refine pqY 52 hS ?_
   refine pqY 53 hS ?_
   refine pqY 54 hS ?_
   refine pqY 55 hS ?_
   refine headC rfl (fun KK hK=>?_)
   -- CALL 19 slot (some 56)
   go_simp
   refine hK _ _ hS ?_
   clear hK KK
   refine pqY 57 hS ?_
   refine head0 ?_
   simp only [List.drop_succ_cons,List.drop_zero]
   clear hS
   go_wp2
   all_goals
    first
    | rw [show min (S.low u) (S.low v)=S.low v by omega] at b3 hr3
    | rw [show min (S.low u) (S.low v)=S.low u by omega] at b3 hr3
    | rw [show ((min (S.low u) (S.low v):Nat):Int)=min (S.low u:Int) (S.low v:Int) by omega] at b3 hr3
    refine NoPanic.normal ?_
    go_wp2
    go_meet
    case rel=>exact ⟨b3,f3,hr3.out,h3⟩
 case rest =>
  obtain ⟨bc,f4,hr4,h4⟩:=hcut
  have oL:=hr4.ownI h4.low
  have oF:=hr4.ownI h4.fnd
  have cV:=oL.at.cellD v (by rw [tab_len]; exact hvn)
  have dV:=oF.at.cellD v (by rw [tab_len]; exact hvn)
  rw [tab_get _ _ _ hvn] at cV dV
  have hlv:({ S with low:=lowS S.low v r,calls:=r }:TS).low v=S.low v:=hlq.out
  rw [hlv] at cV
  have iL:=fun w'=>oL.at.idx v (by rw [tab_len]; exact hvn) w'
  have iF:=fun w'=>oF.at.idx v (by rw [tab_len]; exact hvn) w'
  have x1:=h4.cell hr4 1 (by decide)
  have x2:=h4.cell hr4 2 (by decide)
  simp only [List.getElem?_cons_succ,List.getElem?_cons_zero] at x1 x2
  replace hr4:=Hd hr4
  clear oL oF
  generalize valAt lv v=la at *
  generalize valAt fv v=fa at *
  by_cases hlf:S.low v=S.found v
  ·have hne:((S.low v:Int) != (S.found v:Int))=false:=by rw [hlf]; simp
   go_upto_region 5 with fail
   go_quiet (fail)
   go_wp2_with fail
   clear cV dV iL iF x1 x2 hne
   go_loopg [] S.opn.length (fun k wr=>∃ o p f' ov',o.length=k∧k≤n∧v∈o∧(∀ x∈o,x<n)∧closeS v o p=closeS v S.opn S.part∧Rows B wr f'∧Below B w wr∧SN f' d nv lv fv pv ov' (.slice (some ⟨g,0,none⟩) r.length c) n { S with low:=lowS S.low v r,calls:=r,opn:=o,part:=p })
   case atStart=>exact ⟨S.opn,S.part,f4,ov,rfl,hI.out.opn_len,hvo.out,hol.out,rfl,hr4.out.drewN nq,bc.trans ⟨rfl,rfl,rfl,Nat.le_refl _,fun _ _=>rfl⟩,h4⟩
   case round =>
    obtain ⟨o,p,f5,ov',rfl,hol5,hvo5,hon,hcl,hr5,b5,h5⟩:=hrel
    obtain ⟨t,o',rfl⟩:∃ t o',o=t::o':=by cases o with
     | nil=>cases hvo5
     | cons t o'=>exact ⟨t,o',rfl⟩
    have htn:t<n:=hon t List.mem_cons_self
    obtain ⟨go,co,rfl,hco⟩:=h5.opnShape hr5 (by simp)
    simp only [List.length_cons] at h5 hco hol5
    obtain ⟨wo,rfl⟩:∃ wo:World,wo=wr:=⟨_,rfl⟩
    have x3:=h5.cell hr5 3 (by decide)
    simp only [List.getElem?_cons_succ,List.getElem?_cons_zero] at x3
    have oO:=(hr5.ownI h5.opn).at
    have cT:=oO.cellD o'.length (by rw [upI_len]; simp)
    rw [upI_top] at cT
    have iT:=fun w'=>oO.idx o'.length (by rw [upI_len]; simp) w'
    have hwr':IntKind.i64.wrap (o'.length:Int)=o'.length:=wrapK (by omega) (by omega)
    generalize valAt (.slice (some ⟨go,0,none⟩) (o'.length+1) co) o'.length=ta at *
    replace hcl:=Hd hcl
    replace hon:=Hd hon
    replace hr5:=Hd hr5
    clear oO
    go_upto_region 6 with fail
    go_quiet (fail)
    go_upto_region 7 with fail
    refine wp_region_plan (fun w'=>w'.cell? ⟨d,3,none⟩=some (.slice (some ⟨go,0,none⟩) (o'.length+1) co)) 14 [(0,true),(1,true),(2,true),(3,true),(4,true),(5,true),(6,true),(7,true),(8,true),(9,true),(10,true),(11,true),(12,true),(13,true)] (by kernel_rfl) (by kernel_rfl) ?_
    obtain ⟨W6,hW6⟩:∃ W6:World,W6=(wo.drewN nq).drew:=⟨_,rfl⟩
    rw [← hW6]
    have hr6:Rows B W6 f5:=by rw [hW6]; exact (hr5.out.drewN nq).drew
    have b6:Below B w W6:=by rw [hW6]; exact b5.trans ⟨rfl,rfl,rfl,Nat.le_refl _,fun _ _=>rfl⟩
    have hsl':(0≤(o'.length:Int)∧(o'.length:Int)≤(co:Int)):=⟨by omega,by omega⟩
    have hS:W6.cell? ⟨d,3,none⟩=some (.slice (some ⟨go,0,none⟩) (o'.length+1) co):=by rw [hW6]; exact x3
    have g3:=h5.frz hr6 3
    clear hW6 x3 cT iT
    obtain ⟨f7,hr7,h7⟩:=h5.popOpen rfl hr6
    have b7:Below B w (W6.setCell ⟨d,3,none⟩ (.slice (some ⟨go,0,none⟩) o'.length co)):=b6.setCell (h5.base hr6) _
    replace hr7:=Hd hr7
    replace hr6:=Hd hr6
    refine pqY 85 hS ?_
    refine pqY 86 hS ?_
    refine pqY 87 hS ?_
    refine pqY 88 hS ?_
    refine pqY 89 hS ?_
    refine pqY 90 hS ?_
    refine pqY 91 hS ?_
    refine pqY 92 hS ?_
    refine pqY 93 hS ?_
    refine pqY 94 hS ?_
    refine pqY 95 hS ?_
    refine pqY 96 hS ?_
    refine pqY 97 hS ?_
    refine pqY 98 hS ?_
    refine head0 ?_
    simp only [List.drop_succ_cons,List.drop_zero]
    go_wp2
    clear hS g3
    refine NoPanic.normal ?_
    obtain ⟨W7,hW7⟩:∃ W7:World,W7=W6.setCell ⟨d,3,none⟩ (.slice (some ⟨go,0,none⟩) o'.length co):=⟨_,rfl⟩
    rw [← hW7]
    rw [← hW7] at hr7 b7
    clear hW7
    have x4:=h7.cell hr7.out 4 (by decide)
    simp only [List.getElem?_cons_succ,List.getElem?_cons_zero] at x4
    have oP:=hr7.out.ownI h7.part
    have iP:=fun w'=>oP.at.idx t (by rw [tabI_len]; exact htn) w'
    have cP:=oP.at.cellD t (by rw [tabI_len]; exact htn)
    have fP:=oP.frz t (by rw [tabI_len]; exact htn)
    have kP:=(oP.toV.blkB t (by rw [List.length_map,tabI_len]; exact htn)).2
    obtain ⟨f8,hr8,h8⟩:=h7.setPart hr7.out t htn (v:Int)
    have b8:Below B w (W7.setCell (valAt pv t) (.int .i64 (v:Int))):=b7.setCell kP _
    replace hr8:=Hd hr8
    clear oP
    generalize valAt pv t=pa at *
    by_cases htv:t=v
    ·subst htv
     rw [show closeS t (t::o') p=(o',updN p t t) by simp [closeS]] at hcl
     have hfin:leaveS S t r={ S with low:=lowS S.low t r,calls:=r,opn:=o',part:=updN p t t }:=by
      unfold leaveS
      rw [hlq.out,if_pos hlf,← hcl.out]
     replace hfin:=Hd hfin
     replace hlf:=Hd hlf
     go_wp2
     (try simp only [Exit.inBlock,Exit.then]); refine bodyPost_ret (results_none rfl _ _ _) rfl ?_
     exact ⟨rfl,b8,f8,_,_,hr8.out,by rw [hfin.out]; exact h8⟩
    ·have hne:((t:Int)==(v:Int))=false:=by rw [beq_eq_false_iff_ne]; omega
     have hvo6:v∈o':=(List.mem_cons.1 hvo5).resolve_left (fun e=>htv e.symm)
     rw [show closeS v (t::o') p=closeS v o' (updN p t v) by simp [closeS,htv]] at hcl
     replace hlf:=Hd hlf
     go_wp2
     go_roundg o'.length
     case measure=>simp
     case rel=>exact ⟨o',updN p t v,f8,_,rfl,by omega,hvo6,fun x hx=>hon.out x (List.mem_cons_of_mem _ hx),hcl.out,hr8.out,b8,h8⟩
  ·have hne:((S.low v:Int) != (S.found v:Int))=true:=by rw [bne_iff_ne]; omega
   have hfin:leaveS S v r={ S with low:=lowS S.low v r,calls:=r }:=by
    unfold leaveS
    rw [hlq.out,if_neg hlf]
   replace hfin:=Hd hfin
   replace hlf:=Hd hlf
   go_upto_region 5 with fail
   go_quiet (fail)
   go_wp2
   (try simp only [Exit.inBlock,Exit.then]); refine bodyPost_ret (results_none rfl _ _ _) rfl ?_
   exact ⟨rfl,bc.trans ⟨rfl,rfl,rfl,Nat.le_refl _,fun _ _=>rfl⟩,f4,_,_,hr4.out.drewN nq,by rw [hfin.out]; exact h4⟩
end Go.Proofs.YtkaoebokbfcmhaaGreatDoor
namespace Go.Proofs.YtkaoebokbfcmhaaGreatDoor
inductive Way (adj:Nat→List Nat):Nat→Nat→List Nat→Prop
 | one (x:Nat):Way adj x x [x]
 | cons {x t y:Nat} {w:List Nat} (ht:t∈adj x) (h:Way adj t y w):Way adj x y (x::w)
theorem Way.goes {adj:Nat→List Nat} {x y:Nat} {w:List Nat} (h:Way adj x y w):Goes adj x y:=by
 induction h with
 | one=>exact .refl _
 | cons ht _ ih=>exact (Goes.one ht).trans ih
theorem Way.snoc {adj:Nat→List Nat} {x y z:Nat} {w:List Nat} (h:Way adj x y w) (hz:z∈adj y):Way adj x z (w++[z]):=by
 induction h with
 | one=>exact .cons hz (.one _)
 | cons ht _ ih=>exact .cons ht (ih hz)
theorem Goes.way {adj:Nat→List Nat} {x y:Nat} (h:Goes adj x y):∃ w,Way adj x y w:=by
 induction h with
 | refl=>exact ⟨_,.one _⟩
 | step _ hz ih=>obtain ⟨w,hw⟩:=ih; exact ⟨_,hw.snoc hz⟩
theorem Way.ne {adj:Nat→List Nat} {x y:Nat} {w:List Nat} (h:Way adj x y w):∃ w',w=x::w':=by
 cases h with
 | one=>exact ⟨_,rfl⟩
 | cons=>exact ⟨_,rfl⟩
theorem Way.pos {adj:Nat→List Nat} {x y:Nat} {w:List Nat} (h:Way adj x y w):0<w.length:=by
 obtain ⟨w',rfl⟩:=h.ne; simp
def lexLe:List Nat→List Nat→Prop
 | [],_=>True
 | _::_,[]=>False
 | a::l,b::m=>a<b∨(a=b∧lexLe l m)
theorem lexLe_refl:∀ l,lexLe l l
 | []=>trivial
 | _::l=>.inr ⟨rfl,lexLe_refl l⟩
structure IsFirst (adj:Nat→List Nat) (x y:Nat) (w:List Nat):Prop where
 way:Way adj x y w
 short:∀ u,Way adj x y u→w.length≤u.length
 least:∀ u,Way adj x y u→u.length=w.length→lexLe w u
theorem IsFirst.tail {adj:Nat→List Nat} {x y t:Nat} {w:List Nat} (h:IsFirst adj x y (x::t::w)):IsFirst adj t y (t::w):=by
 obtain ⟨ht,hw⟩:t∈adj x∧Way adj t y (t::w):=by
  have h1:=h.way
  cases h1 with
  | cons ht h2=>obtain ⟨w',e⟩:=h2.ne; injection e with e1 e2; subst e1; exact ⟨ht,h2⟩
 refine ⟨hw,fun u hu=>?_,fun u hu hl=>?_⟩
 ·have:=h.short _ (.cons ht hu); simp only [List.length_cons] at this ⊢; omega
 ·have:=h.least _ (.cons ht hu) (by simp only [List.length_cons] at hl ⊢; omega)
  exact (this.resolve_left (Nat.lt_irrefl _)).2
theorem Way.mem {adj:Nat→List Nat} {x y:Nat} {w:List Nat} (h:Way adj x y w):∀ z∈w,∃ u,Way adj z y u∧u.length≤w.length:=by
 induction h with
 | one=>intro z hz; cases List.mem_singleton.1 hz; exact ⟨_,.one _,Nat.le_refl _⟩
 | cons ht h ih =>
  intro z hz
  rcases List.mem_cons.1 hz with rfl | hz
  ·exact ⟨_,.cons ht h,Nat.le_refl _⟩
  ·obtain ⟨u,h1,h2⟩:=ih z hz; exact ⟨u,h1,by simp only [List.length_cons]; omega⟩
theorem IsFirst.nodup {adj:Nat→List Nat} {x y:Nat} {w:List Nat} (h:IsFirst adj x y w):w.Nodup:=by
 induction w generalizing x with
 | nil=>exact List.nodup_nil
 | cons a w ih =>
  obtain ⟨w',e⟩:=h.way.ne
  injection e with e1 e2
  subst e1; subst e2
  cases w with
  | nil=>simp
  | cons t w =>
   refine List.nodup_cons.2 ⟨fun hm=>?_,ih h.tail⟩
   obtain ⟨u,h1,h2⟩:=h.tail.way.mem _ hm
   have:=h.short u h1
   simp only [List.length_cons] at this h2; omega
structure BBase (adj:Nat→List Nat) (a:Nat) (came:Nat→Int) (q:List Nat) (par dist:Nat→Nat) (b i:Nat):Prop where
 hd:q[0]?=some a
 nodup:q.Nodup
 cameIff:∀ x,0≤came x↔x∈q
 low:∀ x,-1≤came x
 root:came a=a
 dist0:dist a=0
 parLt:∀ (j x:Nat),0<j→q[j]?=some x→par j<b∧par j<j∧∃ p,q[par j]?=some p∧came x=(p:Int)∧x∈adj p∧dist x=dist p+1
 mono:∀ (j k x y:Nat),0<j→j<k→q[j]?=some x→q[k]?=some y→par j≤par k∧(par j=par k→x<y)
 distMono:∀ (j k x y:Nat),j≤k→q[j]?=some x→q[k]?=some y→dist x≤dist y
 closed:∀ p x,p<i→q[p]?=some x→∀ t∈adj x,∃ j,q[j]?=some t∧(0<j→par j≤p)
abbrev BOut (adj:Nat→List Nat) (a:Nat) (came:Nat→Int) (q:List Nat) (par dist:Nat→Nat) (i:Nat):Prop:=BBase adj a came q par dist i i
structure BIn (adj:Nat→List Nat) (a:Nat) (came:Nat→Int) (q:List Nat) (par dist:Nat→Nat) (i v:Nat) (l:List Nat):Prop where
 base:BBase adj a came q par dist (i+1) i
 cur:q[i]?=some v
 sub:∀ t∈l,t∈adj v
 sorted:l.Pairwise (·≤·)
 seen:∀ t∈adj v,t∈l∨∃ j,q[j]?=some t∧(0<j→par j≤i)
 new:∀ j x,0<j→q[j]?=some x→par j=i→∀ t∈l,x≤t
variable {adj:Nat→List Nat} {a:Nat} {came:Nat→Int} {q:List Nat} {par dist:Nat→Nat} {b i v:Nat} {l:List Nat}
theorem get_of {q:List Nat} {j x:Nat} (h:q[j]?=some x):j<q.length:=by
 by_cases e:j<q.length
 ·exact e
 ·rw [List.getElem?_eq_none (by omega)] at h; cases h
theorem get_inj {q:List Nat} (hn:q.Nodup) {j k x:Nat} (h:q[j]?=some x) (h2:q[k]?=some x):j=k:=by
 have h1:=get_of h
 exact (List.getElem?_inj h1 hn).1 (h.trans h2.symm)
theorem BBase.enter (h:BOut adj a came q par dist i) (hv:q[i]?=some v) (hl:∀ t,t∈l↔t∈adj v) (hs:l.Pairwise (·≤·)):BIn adj a came q par dist i v l:=by
 refine ⟨⟨h.hd,h.nodup,h.cameIff,h.low,h.root,h.dist0,fun j x hj hx=>?_,h.mono,h.distMono,h.closed⟩,hv,fun t ht=>(hl t).1 ht,hs,fun t ht=>.inl ((hl t).2 ht),fun j x hj hx hp=>?_⟩
 ·obtain ⟨h1,h2,h3⟩:=h.parLt j x hj hx
  exact ⟨by omega,h2,h3⟩
 ·have:=(h.parLt j x hj hx).1; omega
theorem BIn.leave (h:BIn adj a came q par dist i v []):BOut adj a came q par dist (i+1):=by
 refine ⟨h.base.hd,h.base.nodup,h.base.cameIff,h.base.low,h.base.root,h.base.dist0,h.base.parLt,h.base.mono,h.base.distMono,fun p x hp hx t ht=>?_⟩
 by_cases e:p=i
 ·subst e
  rw [h.cur] at hx; cases hx
  exact (h.seen t ht).resolve_left (by simp)
 ·exact h.base.closed p x (by omega) hx t ht
theorem BIn.old {t:Nat} (h:BIn adj a came q par dist i v (t::l)) (ht:0≤came t):BIn adj a came q par dist i v l:=by
 refine ⟨h.base,h.cur,fun x hx=>h.sub x (List.mem_cons_of_mem _ hx),(List.pairwise_cons.1 h.sorted).2,fun x hx=>?_,fun j x hj hx hp y hy=>h.new j x hj hx hp y (List.mem_cons_of_mem _ hy)⟩
 rcases h.seen x hx with q1 | q1
 ·rcases List.mem_cons.1 q1 with e | e
  ·subst e
   obtain ⟨j,hj⟩:=List.mem_iff_getElem?.1 ((h.base.cameIff x).1 ht)
   refine .inr ⟨j,hj,fun hj0=>?_⟩
   have:=(h.base.parLt j x hj0 hj).1; omega
  ·exact .inl e
 ·exact .inr q1
theorem BIn.add {t:Nat} (h:BIn adj a came q par dist i v (t::l)) (ht:came t<0) :
 BIn adj a (updN came t (v:Int)) (q++[t]) (updN par q.length i) (updN dist t (dist v+1)) i v l:=by
 have hB:=h.base
 have htq:t∉q:=fun hm=>by have:=(hB.cameIff t).2 hm; omega
 have hil:=get_of h.cur
 have hga:∀ j x,(q++[t])[j]?=some x→q[j]?=some x∧j<q.length∧x≠t∨j=q.length∧x=t:=fun j x hx=>by
  by_cases e:j<q.length
  ·rw [List.getElem?_append_left e] at hx
   exact .inl ⟨hx,e,fun e2=>htq (by rw [← e2]; exact List.mem_of_getElem? hx)⟩
  ·rw [List.getElem?_append_right (by omega)] at hx
   by_cases e2:j=q.length
   ·rw [e2] at hx; simp at hx; exact .inr ⟨e2,hx.symm⟩
   ·rw [List.getElem?_eq_none (by simp; omega)] at hx; cases hx
 have hgo:∀ {j x},q[j]?=some x→(q++[t])[j]?=some x:=fun {j x} hx=>by rw [List.getElem?_append_left (get_of hx)]; exact hx
 have hne:∀ x,x∈q→x≠t:=fun x hx e=>htq (by rw [← e]; exact hx)
 have hvt:v≠t:=hne v (List.mem_of_getElem? h.cur)
 have po:∀ j,j<q.length→updN par q.length i j=par j:=fun j hj=>updN_other _ _ _ (by omega)
 have dq:∀ x,x∈q→updN dist t (dist v+1) x=dist x:=fun x hx=>updN_other _ _ _ (hne x hx)
 have haq:a∈q:=List.mem_of_getElem? hB.hd
 have hdle:∀ x,x∈q→dist x≤dist v+1:=fun x hx=>by
  obtain ⟨j,hj⟩:=List.mem_iff_getElem?.1 hx
  by_cases e:0<j
  ·obtain ⟨h1,h2,p,h3,h4,h5,h6⟩:=hB.parLt j x e hj
   have:=hB.distMono (par j) i p v (by omega) h3 h.cur
   omega
  ·have:j=0:=by omega
   subst this; rw [hB.hd] at hj; cases hj; have:=hB.dist0; omega
 refine ⟨⟨hgo hB.hd,?_,fun x=>?_,fun x=>?_,?_,?_,fun j x hj hx=>?_,fun j k x y hj hjk hx hy=>?_,fun j k x y hjk hx hy=>?_,fun p x hp hx t' ht'=>?_⟩,hgo h.cur,fun x hx=>h.sub x (List.mem_cons_of_mem _ hx),(List.pairwise_cons.1 h.sorted).2,fun x hx=>?_,fun j x hj hx hp y hy=>?_⟩
 ·exact List.nodup_append.2 ⟨hB.nodup,by simp,fun x hx y hy=>by cases List.mem_singleton.1 hy; exact hne x hx⟩
 ·by_cases e:x=t
  ·subst e; rw [updN_same]; simp
  ·rw [updN_other _ _ _ e,hB.cameIff]; simp [e]
 ·by_cases e:x=t
  ·subst e; rw [updN_same]; omega
  ·rw [updN_other _ _ _ e]; exact hB.low x
 ·rw [updN_other _ _ _ (hne a haq)]; exact hB.root
 ·rw [dq a haq]; exact hB.dist0
 ·rcases hga j x hx with ⟨h1,h2,h3⟩ | ⟨rfl,rfl⟩
  ·obtain ⟨p1,p2,p,p3,p4,p5,p6⟩:=hB.parLt j x hj h1
   rw [po j h2,updN_other _ _ _ h3,dq x (List.mem_of_getElem? h1)]
   exact ⟨p1,p2,p,hgo p3,p4,p5,by rw [dq p (List.mem_of_getElem? p3)]; exact p6⟩
  ·rw [updN_same,updN_same,updN_same]
   exact ⟨by omega,hil,v,hgo h.cur,rfl,h.sub _ List.mem_cons_self,by rw [dq v (List.mem_of_getElem? h.cur)]⟩
 ·rcases hga j x hx with ⟨h1,h2,h3⟩ | ⟨rfl,rfl⟩
  ·rcases hga k y hy with ⟨k1,k2,k3⟩ | ⟨rfl,rfl⟩
   ·rw [po j h2,po k k2]; exact hB.mono j k x y hj hjk h1 k1
   ·rw [po j h2,updN_same]
    have:=(hB.parLt j x hj h1).1
    exact ⟨by omega,fun e=>by have:=h.new j x hj h1 e y List.mem_cons_self; omega⟩
  ·rcases hga k y hy with ⟨k1,k2,k3⟩ | ⟨rfl,rfl⟩<;>omega
 ·rcases hga k y hy with ⟨k1,k2,k3⟩ | ⟨rfl,rfl⟩
  ·rcases hga j x hx with ⟨h1,h2,h3⟩ | ⟨rfl,rfl⟩
   ·rw [dq x (List.mem_of_getElem? h1),dq y (List.mem_of_getElem? k1)]; exact hB.distMono j k x y hjk h1 k1
   ·omega
  ·rcases hga j x hx with ⟨h1,h2,h3⟩ | ⟨h1,rfl⟩
   ·rw [dq x (List.mem_of_getElem? h1),updN_same]; exact hdle x (List.mem_of_getElem? h1)
   ·exact Nat.le_refl _
 ·rcases hga p x hx with ⟨h1,h2,h3⟩ | ⟨h1,rfl⟩
  ·obtain ⟨j,j1,j2⟩:=hB.closed p x hp h1 t' ht'
   exact ⟨j,hgo j1,fun hj=>by rw [po j (get_of j1)]; exact j2 hj⟩
  ·omega
 ·by_cases e:x=t
  ·subst e; exact .inr ⟨q.length,by simp,fun _=>by rw [updN_same]; exact Nat.le_refl _⟩
  ·rcases h.seen x hx with q1 | ⟨j,j1,j2⟩
   ·exact .inl ((List.mem_cons.1 q1).resolve_left e)
   ·exact .inr ⟨j,hgo j1,fun hj=>by rw [po j (get_of j1)]; exact j2 hj⟩
 ·rcases hga j x hx with ⟨h1,h2,h3⟩ | ⟨rfl,rfl⟩
  ·rw [po j h2] at hp; exact h.new j x hj h1 hp y (List.mem_cons_of_mem _ hy)
  ·exact (List.pairwise_cons.1 h.sorted).1 y hy
theorem BBase.init (adj:Nat→List Nat) (a:Nat):BOut adj a (updN (fun _=>(-1:Int)) a (a:Int)) [a] (fun _=>0) (fun _=>0) 0:=by
 have hg:∀ j x,[a][j]?=some x→j=0∧x=a:=fun j x hx=>by
  cases j with
  | zero=>simp at hx; exact ⟨rfl,hx.symm⟩
  | succ j=>simp at hx
 refine ⟨rfl,by simp,fun x=>?_,fun x=>?_,updN_same _ _ _,rfl,fun j x hj hx=>?_,fun j k x y hj hjk hx hy=>?_,fun j k x y hjk hx hy=>Nat.le_refl _,fun p x hp=>by omega⟩
 ·by_cases e:x=a
  ·subst e; rw [updN_same]; simp
  ·rw [updN_other _ _ _ e]; simp [e]
 ·by_cases e:x=a
  ·subst e; rw [updN_same]; omega
  ·rw [updN_other _ _ _ e]; omega
 ·have:=(hg j x hx).1; omega
 ·have:=(hg j x hx).1; have:=(hg k y hy).1; omega
inductive Tree (came:Nat→Int) (q:List Nat) (adj:Nat→List Nat):Nat→Nat→List Nat→Prop
 | one (x:Nat) (hx:x∈q):Tree came q adj x x [x]
 | cons {x t y:Nat} {w:List Nat} (jx jt:Nat) (hx:q[jx]?=some x) (ht:q[jt]?=some t) (h0:0<jt) (hp:came t=(x:Int)) (h:Tree came q adj t y w):Tree came q adj x y (x::w)
theorem BBase.parent (h:BOut adj a came q par dist i) {jx jt x t:Nat} (hx:q[jx]?=some x) (ht:q[jt]?=some t) (h0:0<jt) (hp:came t=(x:Int)):par jt=jx∧jx<i∧jx<jt∧t∈adj x∧dist t=dist x+1:=by
 obtain ⟨h1,h2,p,h3,h4,h5,h6⟩:=h.parLt jt t h0 ht
 have e:p=x:=by rw [hp] at h4; omega
 subst e
 have:=get_inj h.nodup h3 hx
 exact ⟨this,by omega,by omega,h5,h6⟩
theorem Tree.way (h:BOut adj a came q par dist i) {x y:Nat} {w:List Nat} (ht:Tree came q adj x y w):Way adj x y w:=by
 induction ht with
 | one=>exact .one _
 | cons jx jt hx ht h0 hp _ ih=>exact .cons (h.parent hx ht h0 hp).2.2.2.1 ih
theorem Tree.distEq (h:BOut adj a came q par dist i) {x y:Nat} {w:List Nat} (ht:Tree came q adj x y w):dist y+1=dist x+w.length:=by
 induction ht with
 | one=>rfl
 | cons jx jt hx ht h0 hp _ ih=>have:=(h.parent hx ht h0 hp).2.2.2.2; simp only [List.length_cons]; omega
theorem Tree.last {x y:Nat} {w:List Nat} (ht:Tree came q adj x y w):y∈q:=by
 induction ht with
 | one _ hx=>exact hx
 | cons _ _ _ _ _ _ _ ih=>exact ih
theorem Tree.le (h:BOut adj a came q par dist i) {x y:Nat} {w:List Nat} (ht:Tree came q adj x y w):∀ {j k:Nat},q[j]?=some x→q[k]?=some y→j≤k:=by
 induction ht with
 | one=>intro j k hj hk; exact Nat.le_of_eq (get_inj h.nodup hj hk)
 | cons jx jt hx ht h0 hp _ ih =>
  intro j k hj hk
  have h1:=(h.parent hx ht h0 hp).2.2.1
  have h2:=ih ht hk
  have:=get_inj h.nodup hj hx
  omega
theorem BBase.far (h:BOut adj a came q par dist i) {x y:Nat} {u:List Nat} (hu:Way adj x y u) (hx:x∈q) (hy:y∈q):dist y+1≤dist x+u.length:=by
 induction hu with
 | one=>simp
 | @cons x t y w ht hu ih =>
  obtain ⟨jx,hjx⟩:=List.mem_iff_getElem?.1 hx
  have hl:=hu.pos
  simp only [List.length_cons]
  by_cases hi:jx<i
  ·obtain ⟨jt,h1,h2⟩:=h.closed jx x hi hjx t ht
   have:=ih (List.mem_of_getElem? h1) hy
   have hd:dist t≤dist x+1:=by
    by_cases h0:0<jt
    ·obtain ⟨_,_,p,p1,_,_,p2⟩:=h.parLt jt t h0 h1
     have:=h.distMono _ _ _ _ (h2 h0) p1 hjx
     omega
    ·have:jt=0:=by omega
     subst this; rw [h.hd] at h1; cases h1; have:=h.dist0; omega
   omega
  ·obtain ⟨jy,hjy⟩:=List.mem_iff_getElem?.1 hy
   by_cases h0:0<jy
   ·obtain ⟨p0,_,p,p1,_,_,p2⟩:=h.parLt jy y h0 hjy
    have:=h.distMono _ _ _ _ (show par jy≤jx by omega) p1 hjx
    omega
   ·have:jy=0:=by omega
    subst this; rw [h.hd] at hjy; cases hjy; have:=h.dist0; omega
theorem BBase.longer (h:BOut adj a came q par dist i) {x y b:Nat} {u w:List Nat} (hu:Way adj x b u) (ht:Tree came q adj y b w) {jx jy:Nat} (hjx:q[jx]?=some x) (hjy:q[jy]?=some y) (hlt:jx<jy):w.length<u.length:=by
 induction hu generalizing y w jx jy with
 | one=>have:=ht.le h hjy hjx; omega
 | @cons x x' b u' hx' hu ih =>
  cases ht with
  | one=>have:=hu.pos; simp only [List.length_cons,List.length_nil]; omega
  | cons jy2 jt hy2 hjt h0 hp ht =>
   obtain ⟨e1,e2,e3,_,_⟩:=h.parent hy2 hjt h0 hp
   have e4:=get_inj h.nodup hjy hy2
   obtain ⟨jx',k1,k2⟩:=h.closed jx x (by omega) hjx x' hx'
   have:jx'<jt:=by
    by_cases q1:jx'<jt
    ·exact q1
    ·exfalso
     by_cases q2:jx'=jt
     ·rw [q2] at k2; have:=k2 h0; omega
     ·have:=(h.mono jt jx' _ _ h0 (by omega) hjt k1).1
      have:=k2 (by omega); omega
   have:=ih ht k1 hjt this
   simp only [List.length_cons]; omega
theorem BBase.lex (h:BOut adj a came q par dist i) {x b:Nat} {u w:List Nat} (hu:Way adj x b u) (ht:Tree came q adj x b w) (hl:u.length=w.length):lexLe w u:=by
 induction hu generalizing w with
 | one =>
  cases ht with
  | one=>exact lexLe_refl _
  | cons _ _ _ _ _ _ ht=>cases ht<;>simp at hl
 | @cons x x' b u' hx' hu ih =>
  cases ht with
  | one=>have:=hu.pos; simp only [List.length_cons,List.length_nil] at hl; omega
  | @cons _ t _ w' jx jt hjx hjt h0 hp ht =>
   obtain ⟨e1,e2,e3,_,_⟩:=h.parent hjx hjt h0 hp
   have hl':u'.length=w'.length:=by simpa using hl
   by_cases e:x'=t
   ·subst e; exact .inr ⟨rfl,ih ht hl'⟩
   ·refine .inr ⟨rfl,?_⟩
    obtain ⟨jx',k1,k2⟩:=h.closed jx x e2 hjx x' hx'
    have hne:jx'≠jt:=fun q1=>by subst q1; rw [k1] at hjt; injection hjt with q2; exact e q2
    have hge:jt<jx':=by
     by_cases q1:jx'<jt
     ·have:=h.longer hu ht k1 hjt q1; omega
     ·omega
    have hm:=h.mono jt jx' t x' h0 hge hjt k1
    have:=k2 (by omega)
    have hlt:=hm.2 (by omega)
    obtain ⟨_,rfl⟩:=hu.ne
    obtain ⟨_,rfl⟩:=(ht.way h).ne
    exact .inl hlt
theorem BBase.first (h:BOut adj a came q par dist i) {b:Nat} {w:List Nat} (ht:Tree came q adj a b w):IsFirst adj a b w :=
 ⟨ht.way h,fun u hu=>by
   have h1:=h.far hu (List.mem_of_getElem? h.hd) ht.last
   have h2:=ht.distEq h
   omega,fun u hu hl=>h.lex hu ht hl⟩
theorem BBase.none (h:BOut adj a came q par dist i) (hi:q.length≤i) {b:Nat} (hb:came b<0):¬ Goes adj a b:=fun hg=>by
 have:=Goes.closed (P:=fun x=>x∈q) (fun x hx t ht=>by
  obtain ⟨j,hj⟩:=List.mem_iff_getElem?.1 hx
  obtain ⟨k,hk,_⟩:=h.closed j x (by have:=get_of hj; omega) hj t ht
  exact List.mem_of_getElem? hk) hg (List.mem_of_getElem? h.hd)
 have:=(h.cameIff b).2 this
 omega
open Go.RowKit
def ListsAt (w:World) (v:Value) (G:List (List Int)):Prop :=
 ∃ vs:List Value,ValsAt w v vs∧vs.length=G.length∧∀ i,i<G.length→IntsAt w (vAt vs i) (G.getD i [])
theorem ListsAt.below {w w':World} {v:Value} {G:List (List Int)} (h:ListsAt w v G) (hb:Below w.heap.size w w'):ListsAt w' v G:=by
 obtain ⟨vs,h1,h2,h3⟩:=h
 exact ⟨vs,h1.below hb,h2,fun i hi=>(h3 i hi).below hb⟩
theorem ListsAt.drewN {w:World} {v:Value} {G:List (List Int)} (h:ListsAt w v G) (n:Nat):ListsAt (w.drewN n) v G:=h
theorem ListsAt.len {w:World} {v:Value} {G:List (List Int)} (h:ListsAt w v G) (ty:TypeId) (w':World) :
 (Builtin.len_ #[31] ty #[v]).run Tryz.prog w'=.ok (.int .i64 G.length) w':=by
 obtain ⟨vs,h1,h2,h3⟩:=h
 rw [h1.len oneLists,h2]
theorem ListsAt.shape {w:World} {v:Value} {G:List (List Int)} (h:ListsAt w v G):∃ a c,v=.slice a G.length c:=by
 obtain ⟨vs,⟨a,c,e,_⟩,h2,_⟩:=h
 exact ⟨a,c,by rw [e,h2]⟩
theorem ListsAt.row {w:World} {v:Value} {G:List (List Int)} (h:ListsAt w v G) (x:Nat) (hx:x<G.length) :
 ∃ mv,(∀ w',(Instr.indexAt 31 v (.int .i64 x)).run Tryz.prog w'=.ok (.pointer (some (valAt v x))) w')∧w.cell? (valAt v x)=some mv∧IntsAt w mv (G.getD x []):=by
 obtain ⟨vs,h1,h2,h3⟩:=h
 exact ⟨vAt vs x,fun w'=>h1.idx oneLists x (by omega) w',h1.cellV x (by omega),h3 x hx⟩
def adjOf (G:List (List Int)) (v:Nat):List Nat:=(G.getD v []).map Int.toNat
def GraphOk (G:List (List Int)):Prop:=∀ v,v<G.length→∀ t∈G.getD v [],0≤t∧t<G.length
theorem adjOf_len (G:List (List Int)) (v:Nat):(adjOf G v).length=(G.getD v []).length:=by simp [adjOf]
theorem GraphOk.lt {G:List (List Int)} (h:GraphOk G):∀ v,v<G.length→∀ t∈adjOf G v,t<G.length:=by
 intro v hv t ht
 obtain ⟨i,hi,rfl⟩:=List.mem_map.1 ht
 have:=h v hv i hi
 omega
theorem GraphOk.get {G:List (List Int)} (h:GraphOk G) {v:Nat} (hv:v<G.length) {i:Nat} (hi:i<(G.getD v []).length):(G.getD v []).getD i 0=((adjOf G v).getD i 0:Int):=by
 have hm:(G.getD v [])[i]∈G.getD v []:=List.getElem_mem hi
 have:=h v hv _ hm
 simp only [adjOf,List.getD_eq_getElem?_getD (l:=List.map _ _),List.getElem?_map,List.getElem?_eq_getElem hi,Option.map_some,Option.getD_some]
 rw [List.getD_eq_getElem?_getD,List.getElem?_eq_getElem hi,Option.getD_some]
 omega
set_option maxRecDepth 100000
set_option maxHeartbeats 8000000
def FromPost (B:Nat) (w:World) (d:Nat) (nv lv fv pv:Value) (n:Nat) (adj:Nat→List Nat) (S:TS) (v:Nat) (e:Ending) (w':World):Prop :=
 e=.returned (.tuple #[])∧Below B w w'∧∃ f' ov' cv' T,Rows B w' f'∧SN f' d nv lv fv pv ov' cv' n T∧TInv n adj T∧T.calls=[]∧∀ x,S.found x≠0∨x=v→T.found x≠0
theorem enter_keeps (S:TS) (v x:Nat) (h:S.found x≠0∨x=v):(enterS S v).found x≠0:=by
 show updN S.found v (S.time+1) x≠0
 by_cases e:x=v
 ·subst e; rw [updN_same]; omega
 ·rw [updN_other _ _ _ e]; exact h.resolve_right e
theorem from_any (w0:World) (w:World) (f:Names) (d:Nat) (na:Option Addr) (nc:Nat) (lv fv pv ov cv:Value) (G:List (List Int)) (S:TS) (v:Nat) (hG:ListsAt w0 (.slice na G.length nc) G) (hok:GraphOk G) (hn:G.length≤8192)
 (hb:Below w0.heap.size w0 w) (hr:Rows w0.heap.size w f) (h:SN f d (.slice na G.length nc) lv fv pv ov cv G.length S) (hI:TInv G.length (adjOf G) S) (hc:S.calls=[]) (hv:v<G.length) (hf:S.found v=0) :
 Calls Tryz.prog 168 #[.pointer (some ⟨d,0,none⟩),.int .i64 v] w (FromPost w0.heap.size w d (.slice na G.length nc) lv fv pv G.length (adjOf G) S v):=by
 have hlen:∀ x,x<G.length→(G.getD x []).length≤9223372036854775807:=by
  intro x hx
  obtain ⟨_,_,_,hm⟩:=hG.row x hx
  exact hm.len_le
 have hE:=enter_any w0.heap.size w f d (.slice na G.length nc) lv fv pv ov cv G.length S v hr h hb.size hv (by rw [hc]; simp) (by rw [h.opnNil hI hc]; simp) (by rw [hc]; simp) (by have:=hI.time_le; omega)
 have hI1:=hI.enterRoot hc hv hf
 have hkeep:=enter_keeps S v
 replace hG:=Hd hG
 replace hok:=Hd hok
 replace hI:=Hd hI
 replace hlen:=Hd hlen
 replace hr:=Hd hr
 go_enter Tryz.func168,Tryz.ntmps168
 go_wp2_with fail
 refine hE.mono ?_
 rintro e w1 ⟨rfl,b1,f1,ov1,cv1,hr1,h1⟩
 generalize enterS S v=S1 at *
 replace hE:=()
 clear hE
 replace hkeep:=Hd hkeep
 replace hI1:=Hd hI1
 replace hr1:=Hd hr1
 go_wp2_with fail
 go_loopg [] (phi G.length (adjOf G) S1) (fun k wr=>∃ Sx f' ov' cv',k=phi G.length (adjOf G) Sx∧TInv G.length (adjOf G) Sx∧(∀ x,S1.found x≠0→Sx.found x≠0)∧Rows w0.heap.size wr f'∧Below w0.heap.size w wr∧SN f' d (.slice na G.length nc) lv fv pv ov' cv' G.length Sx)
 case atStart=>exact ⟨S1,f1,ov1,cv1,rfl,hI1.out,fun _ h=>h,hr1.out,b1,h1⟩
 case round =>
  obtain ⟨Sx,f2,ov2,cv2,rfl,hI2,hk2,hr2,b2,h2⟩:=hrel
  obtain ⟨wo,rfl⟩:∃ wo:World,wo=wr:=⟨_,rfl⟩
  have x5:=h2.cell hr2 5 (by decide)
  simp only [List.getElem?_cons_succ,List.getElem?_cons_zero] at x5
  cases hc2:Sx.calls with
  | nil =>
   obtain ⟨ca,cc,rfl⟩:=h2.callsLen hr2
   rw [hc2,List.length_nil] at h2 x5
   have hfin:=Hd (show ∀ x,S.found x≠0∨x=v→Sx.found x≠0 from fun x hx=>hk2 x (hkeep.out x hx))
   replace hI2:=Hd hI2
   replace hc2:=Hd hc2
   replace hr2:=Hd hr2
   clear hk2
   go_wp2
   go_end0
   exact ⟨rfl,b2,f2,ov2,_,Sx,hr2.out,h2,hI2.out,hc2.out,hfin.out⟩
  | cons x r =>
   obtain ⟨g,c,rfl,hcap⟩:=h2.callsShape hr2 (by rw [hc2]; simp)
   rw [hc2,List.length_cons] at h2 x5 hcap
   have hxc:x∈Sx.calls:=by rw [hc2]; exact List.mem_cons_self
   have hxn:=hI2.seenLt x (hI2.callsSeen hxc).1
   have hrl:=hI2.calls_len
   rw [hc2,List.length_cons] at hrl
   have hxr:x∉r:=fun hm=>by
    have:=hI2.callsSorted
    rw [hc2] at this
    exact absurd ((List.pairwise_cons.1 this).1 x hm) (Nat.lt_irrefl _)
   have hil:=hI2.idxLe x (hI2.callsOpen x hxc)
   have hal:=adjOf_len G x
   have hll:=hlen.out x hxn
   have hphi:=hI2.phi_step hc2
   have hI3:=hI2.step
   have hk3:=fun y (hy:S1.found y≠0)=>(keepsS (adjOf G) Sx (hk2 y hy)).symm▸hk2 y hy
   obtain ⟨t0,t1,t1f⟩:=h2.callTop hc2 hr2
   have x0:=h2.cell hr2 0 (by decide)
   simp only [List.getElem?_cons_zero] at x0
   have hb2:=hb.trans b2
   obtain ⟨mv,iR,cR,hM⟩:=(hG.out.below hb2).row x hxn
   have hget:=fun (i:Nat) (hi:i<(G.getD x []).length)=>hok.out.get hxn hi
   obtain ⟨gx,hgx⟩:∃ gx,G.getD x []=gx:=⟨_,rfl⟩
   rw [hgx] at hM hal hll hget
   replace hgx:=Hd hgx
   replace hget:=Hd hget
   have lenM:=hM.len
   have hwr:IntKind.i64.wrap (r.length:Int)=r.length:=wrapK (by omega) (by omega)
   obtain ⟨ra,hra⟩:∃ ra,valAt (.slice na G.length nc) x=ra:=⟨_,rfl⟩
   rw [hra] at iR cR
   replace hra:=Hd hra
   replace hphi:=Hd hphi
   replace hI3:=Hd hI3
   replace hk3:=Hd hk3
   replace hM:=Hd hM
   replace hI2:=Hd hI2
   replace hr2:=Hd hr2
   replace hk2:=Hd hk2
   replace hxr:=Hd hxr
   have hstep:=Hd (stepS_cons (adj:=adjOf G) hc2)
   by_cases hi:Sx.idx x=(adjOf G x).length
   ·have hieq:((Sx.idx x:Int)==(gx.length:Int))=true:=by rw [beq_iff_eq]; omega
    rw [if_pos hi] at hstep
    have hL:=fun (w':World) (hr':Rows w0.heap.size w' f2)=>leave_any w0.heap.size w' f2 d (.slice na G.length nc) lv fv pv ov2 _ G.length (adjOf G) Sx x r hr' h2 hI2.out hc2 hn
    replace hL:=Hd hL
    replace hc2:=Hd hc2
    replace hi:=Hd hi
    go_upto_region 2 with fail
    go_quiet (fail)
    go_upto_region 3 with fail
    go_quiet (fail)
    go_wp2_with fail
    clear t0 t1 t1f x0 x5 iR cR lenM
    refine (hL.out _ (hr2.out.drewN _)).mono ?_
    rintro e w3 ⟨rfl,b3,f3,ov3,cv3,hr3,h3⟩
    replace hr3:=Hd hr3
    go_wp2
    go_roundg (phi G.length (adjOf G) (stepS (adjOf G) Sx))
    case measure=>exact hphi.out
    case rel=>exact ⟨stepS (adjOf G) Sx,f3,ov3,cv3,rfl,hI3.out,hk3.out,hr3.out,b2.trans (Below.trans (below_drewN (Below.refl _ _) _) b3),by rw [hstep.out]; exact h3⟩
   ·have hine:((Sx.idx x:Int)==(gx.length:Int))=false:=by rw [beq_eq_false_iff_ne]; omega
    have hilt:Sx.idx x<gx.length:=by omega
    rw [if_neg hi] at hstep
    have hg1:=hget.out _ hilt
    obtain ⟨t,ht⟩:∃ t,(adjOf G x).getD (Sx.idx x) 0=t:=⟨_,rfl⟩
    rw [ht] at hg1 hstep
    have htn:=(hI2.out.idx_get hc2 hi).2.2
    rw [ht] at htn
    have iT:=hM.out.idx _ hilt
    have cT:=hM.out.cellD _ hilt
    rw [hg1] at cT
    generalize valAt mv (Sx.idx x)=ta at *
    replace hg1:=Hd hg1
    replace ht:=Hd ht
    replace hi:=Hd hi
    have e1:((Sx.idx x+1:Nat):Int)=(Sx.idx x:Int)+1:=by omega
    have hbump:=fun (w':World) (hr':Rows w0.heap.size w' f2)=>h2.bump hc2 hxr.out hr' (Sx.idx x+1)
    rw [e1] at hbump
    replace e1:=Hd e1
    replace hbump:=Hd hbump
    have hgB:=((hr2.out.lt h2.calls) g rfl).1
    have hcb:=Hd (show t∉Sx.calls∨Sx.found t≠0 from by
     by_cases q:Sx.found t=0
     ·exact .inl fun hm=>(hI2.out.callsSeen hm).1 q
     ·exact .inr q)
    have hlens:=Hd (show Sx.opn.length<10000∧Sx.calls.length<10000∧Sx.time<100000 from ⟨by have:=hI2.out.opn_len; omega,by have:=hI2.out.calls_len; omega,by have:=hI2.out.time_le; omega⟩)
    replace hc2:=Hd hc2
    go_upto_region 2 with fail
    go_quiet (fail)
    revert nq
    intro q1
    go_upto_region 3 with fail
    go_quiet (fail)
    revert nq
    intro q2
    go_upto_region 5 with fail
    go_quiet (fail)
    go_upto_region 7 with fail
    obtain ⟨WN,hWN⟩:∃ WN:World,WN=wo.drewN (q1+q2+nq):=⟨_,rfl⟩
    rw [← hWN]
    have hrN:Rows w0.heap.size WN f2:=by rw [hWN]; exact hr2.out.drewN _
    have bN:Below w0.heap.size w WN:=by rw [hWN]; exact b2.trans (below_drewN (Below.refl _ _) _)
    clear hWN t0 t1 t1f x0 x5 iR cR lenM iT cT
    obtain ⟨f3,hr3,h3⟩:=hbump.out _ hrN
    have b3:Below w0.heap.size w (WN.setCell ⟨g,r.length*2+1,none⟩ (.int .i64 ((Sx.idx x:Int)+1))):=bN.setCell hgB _
    obtain ⟨W3,hW3⟩:∃ W3:World,W3=WN.setCell ⟨g,r.length*2+1,none⟩ (.int .i64 ((Sx.idx x:Int)+1)):=⟨_,rfl⟩
    rw [← hW3]
    rw [← hW3] at hr3 b3
    clear hW3 hrN bN
    have x2:=h3.cell hr3 2 (by decide)
    simp only [List.getElem?_cons_succ,List.getElem?_cons_zero] at x2
    have oF:=(hr3.ownI h3.fnd).at
    have iF:=fun w'=>oF.idx t (by rw [tab_len]; exact htn) w'
    have cF:=oF.cellD t (by rw [tab_len]; exact htn)
    rw [tab_get _ _ _ htn] at cF
    dsimp only at cF
    replace hr3:=Hd hr3
    clear oF
    obtain ⟨fa,hfa⟩:∃ fa,valAt fv t=fa:=⟨_,rfl⟩
    rw [hfa] at iF cF
    replace hfa:=Hd hfa
    by_cases hft:Sx.found t=0
    ·rw [if_pos hft] at hstep
     have hE3:=enter_any w0.heap.size W3 f3 d (.slice na G.length nc) lv fv pv ov2 _ G.length _ t hr3.out h3 (Nat.le_trans hb.size (Nat.le_trans b3.size (Nat.le_refl _))) htn (by show t∉Sx.calls; exact hcb.out.resolve_right (fun q=>q hft)) hlens.out.1 hlens.out.2.1 hlens.out.2.2
     replace hE3:=Hd hE3
     rw [hft] at cF
     replace hft:=Hd hft
     go_wp2_with fail
     clear x2 iF cF
     refine hE3.out.mono ?_
     rintro e w4 ⟨rfl,b4,f4,ov4,cv4,hr4,h4⟩
     replace hr4:=Hd hr4
     go_wp2
     go_roundg (phi G.length (adjOf G) (stepS (adjOf G) Sx))
     case measure=>exact hphi.out
     case rel=>exact ⟨stepS (adjOf G) Sx,f4,ov4,cv4,rfl,hI3.out,hk3.out,hr4.out,b3.trans b4,by rw [hstep.out]; exact h4⟩
    ·have hne:((Sx.found t:Int)==0)=false:=by rw [beq_eq_false_iff_ne]; omega
     rw [if_neg hft] at hstep
     replace hft:=Hd hft
     have x4:=h3.cell hr3.out 4 (by decide)
     simp only [List.getElem?_cons_succ,List.getElem?_cons_zero] at x4
     have oP:=(hr3.out.ownI h3.part).at
     have iP:=fun w'=>oP.idx t (by rw [tabI_len]; exact htn) w'
     have cP:=oP.cellD t (by rw [tabI_len]; exact htn)
     rw [tabI_get _ _ _ htn] at cP
     dsimp only at cP
     clear oP
     generalize valAt pv t=pa at *
     by_cases hpt:Sx.part t<0
     ·rw [if_pos hpt] at hstep
      have hcx:Sx.calls=x::r:=hc2.out
      have hT0:=fun (w':World) (hr':Rows w0.heap.size w' f3)=>(h3.callTop hcx hr').1
      replace hcx:=Hd hcx
      replace hT0:=Hd hT0
      go_upto_region 10 with fail
      clear x4 iP cP x2
      refine wp_region_plan (fun w'=>w'.cell? ⟨d,1,none⟩=some lv∧w'.cell? ⟨d,2,none⟩=some fv∧w'.cell? ⟨g,r.length*2,none⟩=some (.int .i64 (x:Int))∧w'.cell? (valAt lv x)=some (.int .i64 (Sx.low x:Int))∧w'.cell? fa=some (.int .i64 (Sx.found t:Int))) 27 [(0,true),(1,true),(2,true),(3,true),(4,true),(5,true),(6,true),(7,true),(8,true),(9,true),(10,true),(11,true),(12,true),(13,true),(14,true),(15,true),(16,true),(17,true),(18,true),(19,true),(20,true),(21,true),(22,true),(23,true),(24,true),(25,false),(26,true)] (by kernel_rfl) (by kernel_rfl) ?_
      obtain ⟨W5,hW5⟩:∃ W5:World,W5=W3.drew:=⟨_,rfl⟩
      rw [← hW5]
      have hr5:Rows w0.heap.size W5 f3:=by rw [hW5]; exact hr3.out.drew
      have b5:Below w0.heap.size w W5:=by rw [hW5]; exact b3.drew
      have cF5:W5.cell? fa=some (.int .i64 (Sx.found t:Int)):=by rw [hW5]; exact cF
      clear hW5 cF
      have oL:=hr5.ownI h3.low
      have iX:=fun w'=>oL.at.idx x (by rw [tab_len]; exact hxn) w'
      have cX:=oL.at.cellD x (by rw [tab_len]; exact hxn)
      rw [tab_get _ _ _ hxn] at cX
      dsimp only at cX
      have fX:=oL.frz x (by rw [tab_len]; exact hxn)
      have kX:=(oL.toV.blkB x (by rw [List.length_map,tab_len]; exact hxn)).2
      have hS:W5.cell? ⟨d,1,none⟩=some lv∧W5.cell? ⟨d,2,none⟩=some fv∧W5.cell? ⟨g,r.length*2,none⟩=some (.int .i64 (x:Int))∧W5.cell? (valAt lv x)=some (.int .i64 (Sx.low x:Int))∧W5.cell? fa=some (.int .i64 (Sx.found t:Int)):=⟨h3.cell hr5 1 (by decide),h3.cell hr5 2 (by decide),hT0.out _ hr5,cX,cF5⟩
      obtain ⟨f6,hr6,h6⟩:=h3.setLow hr5 x hxn (min (Sx.low x) (Sx.found t))
      have b6:Below w0.heap.size w (W5.setCell (valAt lv x) (.int .i64 ((min (Sx.low x) (Sx.found t):Nat):Int))):=b5.setCell kX _
      replace hr6:=Hd hr6
      replace hr5:=Hd hr5
      clear oL cF5
      generalize valAt lv x=la at *
      refine pqY 92 hS ?_
      refine pqY 93 hS ?_
      refine pqY 94 hS ?_
      refine pqY 95 hS ?_
      refine pqY 96 hS ?_
      refine pqY 97 hS ?_
      refine pqY 98 hS ?_
      refine pqY 99 hS ?_
      refine pqY 100 hS ?_
      refine pqY 101 hS ?_
      refine pqY 102 hS ?_
      refine pqY 103 hS ?_
      refine pqY 104 hS ?_
      refine pqY 105 hS ?_
      refine pqY 106 hS ?_
      refine pqY 107 hS ?_
      refine pqY 108 hS ?_
      refine pqY 109 hS ?_
      refine pqY 110 hS ?_
      refine pqY 111 hS ?_
      refine pqY 112 hS ?_
      refine pqY 113 hS ?_
      refine pqY 114 hS ?_
      refine pqY 115 hS ?_
      refine pqY 116 hS ?_
      refine headC rfl (fun KK hK=>?_)
      -- CALL 25 slot (some 117)
      go_simp
      refine hK _ _ hS ?_
      clear hK KK
      refine pqY 118 hS ?_
      refine head0 ?_
      simp only [List.drop_succ_cons,List.drop_zero]
      clear hS iX iF
      go_wp2
      all_goals
       first
       | rw [show min (Sx.low x) (Sx.found t)=Sx.found t by omega] at b6 hr6
       | rw [show min (Sx.low x) (Sx.found t)=Sx.low x by omega] at b6 hr6
       | rw [show ((min (Sx.low x) (Sx.found t):Nat):Int)=min (Sx.low x:Int) (Sx.found t:Int) by omega] at b6 hr6
       refine NoPanic.normal ?_
       go_wp2
       go_roundg (phi G.length (adjOf G) (stepS (adjOf G) Sx))
       case measure=>exact hphi.out
       case rel=>exact ⟨stepS (adjOf G) Sx,f6,ov2,_,rfl,hI3.out,hk3.out,hr6.out,b6,by rw [hstep.out]; exact h6⟩
     ·rw [if_neg hpt] at hstep
      go_wp2
      go_roundg (phi G.length (adjOf G) (stepS (adjOf G) Sx))
      case measure=>exact hphi.out
      case rel=>exact ⟨stepS (adjOf G) Sx,f3,ov2,_,rfl,hI3.out,hk3.out,hr3.out,b3,by rw [hstep.out]; exact h3⟩
def sGraph:ByteArray:=⟨#[103,114,97,112,104]⟩
def oddT (n:Nat) (t:Int):Bool:=decide (t<0)||decide ((n:Int)≤t)
def arrowsTo (G:List (List Int)):Nat→Nat
 | 0=>0
 | k+1=>arrowsTo G k+(G.getD k []).length
def oddTo (G:List (List Int)):Nat→Int
 | 0=>-1
 | k+1=>if oddTo G k<0 then (if 0≤idxOf (oddT G.length) (G.getD k []) then (k:Int) else oddTo G k) else oddTo G k
def checkG (G:List (List Int)):PErr :=
 if 8192<G.length then fresh sGraph 0 4
 else if 262144<arrowsTo G G.length then fresh sGraph 1 4
 else if 0≤oddTo G G.length then fresh sGraph (oddTo G G.length) 1
 else none
theorem arrowsTo_mono (G:List (List Int)) {k l:Nat} (h:k≤l):arrowsTo G k≤arrowsTo G l:=by
 induction l with
 | zero=>obtain rfl:k=0:=by omega
         exact Nat.le_refl _
 | succ l ih =>
  by_cases e:k=l+1
  ·subst e; exact Nat.le_refl _
  ·have:=ih (by omega); simp only [arrowsTo]; omega
theorem oddTo_neg (G:List (List Int)):∀ k,oddTo G k<0→∀ v,v<k→∀ t∈G.getD v [],oddT G.length t=false
 | 0,_,v,hv=>by omega
 | k+1,h,v,hv=>by
  simp only [oddTo] at h
  by_cases hk:oddTo G k<0
  ·rw [if_pos hk] at h
   by_cases hj:0≤idxOf (oddT G.length) (G.getD k [])
   ·rw [if_pos hj] at h; omega
   ·by_cases e:v=k
    ·subst e
     intro t ht
     rcases idxOf_cases (oddT G.length) (G.getD v []) with ⟨_,q⟩ | ⟨i,q,_⟩
     ·exact q t ht
     ·omega
    ·exact oddTo_neg G k hk v (by omega)
  ·rw [if_neg hk] at h; exact absurd h hk
theorem checkG_none {G:List (List Int)} (h:checkG G=none):G.length≤8192∧arrowsTo G G.length≤262144∧GraphOk G:=by
 unfold checkG at h
 by_cases h1:8192<G.length
 ·rw [if_pos h1] at h; cases h
 rw [if_neg h1] at h
 by_cases h2:262144<arrowsTo G G.length
 ·rw [if_pos h2] at h; cases h
 rw [if_neg h2] at h
 by_cases h3:0≤oddTo G G.length
 ·rw [if_pos h3] at h; cases h
 refine ⟨by omega,by omega,fun v hv t ht=>?_⟩
 have:=oddTo_neg G G.length (by omega) v hv t ht
 simp [oddT] at this
 omega
theorem graph_wrong (r:Nat→Addr) (at_ n:Int) (w:World) (hg:Glob r w) (h1:1≤n) (h2:n≤11) :
 Calls Tryz.prog 138 #[.int .i64 at_,.int .i64 n] w (Ret1 (fun v w'=>ErrIs r w' (fresh sGraph at_ n) v) w):=by
 go_enter Tryz.func138,Tryz.ntmps138
 go_wp2_with fail
 refine (new_any r _ at_ n w hg h1 h2).mono ?_
 rintro e w' ⟨v,rfl,hb,he⟩
 go_wp2
 go_ret
 exact ⟨_,rfl,hb,he⟩
theorem check1_any (x:Int) (na:Option Addr) (n nc:Nat) (b:Addr) (w:World) (hb:w.cell? b=some (.slice na n nc)) :
 Calls Tryz.prog 170 #[.int .i64 x,.pointer (some b)] w fun e w'=>e=.returned (.bool (oddT n x))∧w=w':=by
 by_cases h:x<0
 ·have e:oddT n x=true:=by simp [oddT,h]
  rw [e]
  go_enter Tryz.func170,Tryz.ntmps170
  go_wp2
  go_ret
  exact ⟨rfl,rfl⟩
 ·have e:oddT n x=decide ((n:Int)≤x):=by simp [oddT,h]
  rw [e]
  go_enter Tryz.func170,Tryz.ntmps170
  go_wp2
  go_ret
  exact ⟨ret_bool (by simp),rfl⟩
theorem eg_check1 (args:Array Value) (w:World):(callFunc 170 args).run Tryz.prog w=.ok (.enter 170 args) w:=by kernel_rfl
theorem containsFunc_any (v b:Value) (F:Nat) (xs:List Int) (p:Int→Bool) (w:World) (h:IntsAt w v xs)
 (eg:∀ args w,(callFunc F args).run Tryz.prog w=.ok (.enter F args) w)
 (hF:∀ x:Int,x∈xs→Calls Tryz.prog F #[.int .i64 x,b] w fun e w'=>e=.returned (.bool (p x))∧w=w') :
 Calls Tryz.prog 135 #[v,.func (.func F) #[] #[b]] w fun e w'=>e=.returned (.bool (decide (0≤idxOf p xs)))∧w=w':=by
 have hI:=indexFunc_any v b F xs p w h eg hF
 clear hF eg
 go_enter Tryz.func135,Tryz.ntmps135
 go_wp2_with fail
 refine hI.mono ?_
 rintro e w' ⟨rfl,rfl⟩
 go_wp2
 go_ret
 exact ⟨ret_bool (by simp),rfl⟩
theorem graph_check (r:Nat→Addr) (na:Option Addr) (nc:Nat) (G:List (List Int)) (w:World) (hg:Glob r w) (h:ListsAt w (.slice na G.length nc) G) (hsz:∀ k,k<G.length→(G.getD k []).length≤17592186044416) :
 Calls Tryz.prog 137 #[.slice na G.length nc] w (Ret1 (fun v w'=>ErrIs r w' (checkG G) v) w):=by
 have b0:Below w.heap.size w (w.alloc (.cells #[.slice na G.length nc] 31)):=(Below.refl _ _).alloc (Nat.le_refl _) _
 obtain ⟨w0,hw0⟩:∃ w0,w0=w.alloc (.cells #[.slice na G.length nc] 31):=⟨_,rfl⟩
 have c0:w0.cell? ⟨w.heap.size,0,none⟩=some (.slice na G.length nc):=by simp [hw0,go_sem]
 rw [← hw0] at b0
 replace hsz:=Hd hsz
 replace hg:=Hd (hg.below b0)
 replace h:=Hd (h.below b0)
 have hn63:G.length≤9223372036854775807:=by
  obtain ⟨vs,h1,h2,_⟩:=h.out
  have:=h1.len_le; omega
 by_cases hbig:8192<G.length
 ·have hp:checkG G=fresh sGraph 0 4:=by unfold checkG; rw [if_pos hbig]
  rw [hp]
  replace hp:=Hd hp
  go_enter Tryz.func137,Tryz.ntmps137
  go_wp2_with fail
  rw [← hw0]
  clear hw0
  refine (graph_wrong r _ _ _ hg.out (by decide) (by decide)).mono ?_
  rintro e w' ⟨v,rfl,hb,he⟩
  replace he:=Hd he
  go_wp2
  go_ret
  exact ⟨_,rfl,Below.step b0 hb,he.out⟩
 ·have hpure:∀ k,k≤G.length→262144<arrowsTo G k→checkG G=fresh sGraph 1 4:=fun k hk hq=>by
   unfold checkG
   rw [if_neg hbig,if_pos (by have:=arrowsTo_mono G hk; omega)]
  have hend:arrowsTo G G.length≤262144→checkG G=if 0≤oddTo G G.length then fresh sGraph (oddTo G G.length) 1 else none:=fun hq=>by
   unfold checkG
   rw [if_neg hbig,if_neg (by omega)]
  replace hpure:=Hd hpure
  replace hend:=Hd hend
  have hgt:decide ((G.length:Int)>8192)=false:=by simp; omega
  go_enter Tryz.func137,Tryz.ntmps137
  go_upto_if 9 with fail
  rw [← hw0]
  clear hw0
  go_wp2_with fail
  go_loopw [3,4,13] (fun a o i wr=>∃ k n:Nat,k≤G.length∧i=.int .i64 k∧a=.int .i64 (arrowsTo G k)∧o=.int .i64 (oddTo G k)∧arrowsTo G k≤262144∧wr=w0.drewN n) (fun _ _ i _=>G.length-(intOf i).toNat)
  case atStart=>exact ⟨0,0,by omega,rfl,rfl,rfl,by simp [arrowsTo],rfl⟩
  case round =>
   obtain ⟨k,q,hk,rfl,rfl,rfl,hle,rfl⟩:=hrel
   by_cases hlt:k<G.length
   ·obtain ⟨mv,iR,cR,hM⟩:=h.out.row k hlt
    have hll:=hsz.out k hlt
    have ha1:arrowsTo G (k+1)=arrowsTo G k+(G.getD k []).length:=rfl
    have ho1:oddTo G (k+1)=if oddTo G k<0 then (if 0≤idxOf (oddT G.length) (G.getD k []) then (k:Int) else oddTo G k) else oddTo G k:=rfl
    generalize G.getD k []=gk at *
    have lenM:=hM.len
    replace hM:=Hd hM
    by_cases hov:262144<arrowsTo G k+gk.length
    ·have hp:=hpure.out (k+1) (by omega) (by omega)
     replace hp:=Hd hp
     replace ho1:=Hd ho1
     replace ha1:=Hd ha1
     go_wp2_with fail
     refine (graph_wrong r _ _ _ (hg.out.below (below_drewN (Below.refl _ _) q)) (by decide) (by decide)).mono ?_
     rintro e w' ⟨v,rfl,hb,he⟩
     replace he:=Hd he
     go_wp2
     go_ret
     exact ⟨_,rfl,Below.step b0 (Below.step (below_drewN (Below.refl _ _) q) hb),by rw [hp.out]; exact he.out⟩
    ·by_cases hod:oddTo G k<0
     ·rw [if_pos hod] at ho1
      have hcf:=Hd (containsFunc_any mv (.pointer (some ⟨w.heap.size,0,none⟩)) 170 gk (oddT G.length) (w0.drewN q) (hM.out.drewN q) eg_check1 (fun x _=>check1_any x na G.length nc _ _ c0))
      by_cases hx:0≤idxOf (oddT G.length) gk
      ·rw [if_pos hx] at ho1
       replace ho1:=Hd ho1
       replace ha1:=Hd ha1
       go_wp2_with fail
       refine hcf.out.mono ?_
       rintro e w' ⟨rfl,rfl⟩
       rw [show decide (0≤idxOf (oddT G.length) gk)=true by simpa using hx]
       replace hx:=Hd hx
       go_wp2
       go_round
       case measure=>simp [intOf]; omega
       case rel=>exact ⟨k+1,_,by omega,by go_num,by rw [ha1.out]; go_num,by rw [ho1.out],by rw [ha1.out]; omega,rfl⟩
      ·rw [if_neg hx] at ho1
       replace ho1:=Hd ho1
       replace ha1:=Hd ha1
       go_wp2_with fail
       refine hcf.out.mono ?_
       rintro e w' ⟨rfl,rfl⟩
       rw [show decide (0≤idxOf (oddT G.length) gk)=false by simpa using hx]
       replace hx:=Hd hx
       go_wp2
       go_round
       case measure=>simp [intOf]; omega
       case rel=>exact ⟨k+1,_,by omega,by go_num,by rw [ha1.out]; go_num,by rw [ho1.out],by rw [ha1.out]; omega,rfl⟩
     ·rw [if_neg hod] at ho1
      replace ho1:=Hd ho1
      replace ha1:=Hd ha1
      go_wp2
      go_round
      case measure=>simp [intOf]; omega
      case rel=>exact ⟨k+1,_,by omega,by go_num,by rw [ha1.out]; go_num,by rw [ho1.out],by rw [ha1.out]; omega,rfl⟩
   ·obtain rfl:k=G.length:=by omega
    have hp:=hend.out hle
    by_cases hod:0≤oddTo G G.length
    ·rw [if_pos hod] at hp
     replace hp:=Hd hp
     go_wp2_with fail
     refine (graph_wrong r _ _ _ (hg.out.below (below_drewN (Below.refl _ _) q)) (by decide) (by decide)).mono ?_
     rintro e w' ⟨v,rfl,hb,he⟩
     replace he:=Hd he
     go_wp2
     go_ret
     exact ⟨_,rfl,Below.step b0 (Below.step (below_drewN (Below.refl _ _) q) hb),by rw [hp.out]; exact he.out⟩
    ·rw [if_neg hod] at hp
     replace hp:=Hd hp
     go_wp2
     go_ret
     exact ⟨_,rfl,Below.step b0 (below_drewN (Below.refl _ _) q),by rw [hp.out]; rfl⟩
end Go.Proofs.YtkaoebokbfcmhaaGreatDoor
namespace Go.Proofs.YtkaoebokbfcmhaaGreatDoor
open Go.RowKit Go.Shelf
set_option maxRecDepth 100000
set_option maxHeartbeats 8000000
def Tryz.laysMul_ren:Go.Shelf.Ren:=⟨fun | 212=>110 | 263=>140 | 264=>141 | n=>n,fun | 46=>108 | 51=>82 | 146=>96 | 53=>50 | 148=>215 | n=>n,fun | n=>n⟩
theorem Tryz.laysMul:Go.Proofs.Lays.n212 Tryz.prog Tryz.laysMul_ren:={
 mixed:=by kernel_rfl
 f212:=Tryz.func110.trans (congrArg some (by kernel_rfl))
 f263:=Tryz.func140.trans (congrArg some (by kernel_rfl))
 f264:=Tryz.func141.trans (congrArg some (by kernel_rfl))
 t46:=Tryz.underlying108
 a46:=Tryz.isAgg108
 z46:=Tryz.sizeOf108
 v46:=Tryz.zeroValue108
 t51:=Tryz.underlying82
 a51:=Tryz.isAgg82
 z51:=Tryz.sizeOf82
 v51:=Tryz.zeroValue82
 t53:=Tryz.underlying50
 a53:=Tryz.isAgg50
 z53:=Tryz.sizeOf50
 v53:=Tryz.zeroValue50
 t146:=Tryz.underlying96
 a146:=Tryz.isAgg96
 z146:=Tryz.sizeOf96
 v146:=Tryz.zeroValue96
 t148:=Tryz.underlying215
 a148:=Tryz.isAgg215
 z148:=Tryz.sizeOf215
 v148:=Tryz.zeroValue215 }
theorem run_copyMin {w:World} {B:Nat} {v u d:Value} {xs ys:List Int} (off:Nat) (ty:TypeId) (dp:Option Addr) (dLen dCap:Nat) (hown:OwnI B w v xs) (hu:IntsAt w u ys) (hd:d=.slice dp dLen dCap)
 (hfit:off+dLen≤xs.length) (h0:0<dLen) (h1:0<ys.length) (hdp:dp=some (valAt v off)) :
 ∃ w',(Builtin.copy_ #[22,22] ty #[d,u]).run Tryz.prog w=.ok (.int .i64 ((ys.take dLen).length:Int)) w'∧OwnI B w' v (xs.take off++ys.take dLen++xs.drop (off+(ys.take dLen).length))∧Below B w w':=by
 subst hd
 obtain ⟨sp,sCap,rfl,hc1,h2,h3,h4⟩:=hu
 subst hdp
 cases sp with
 | none=>have:=h3 rfl; omega
 | some p =>
  rcases hown.2 with ⟨rfl,hn⟩ | ⟨g,cap,cur,rfl,hb,hg,hn,hm,hcs,ht⟩
  ·omega
  ·rw [valAt_row]
   obtain ⟨zs,hzs⟩:∃ zs,zs=ys.take dLen:=⟨_,rfl⟩
   have hzl:zs.length=Nat.min ys.length dLen:=by rw [hzs,List.length_take,Nat.min_comm]
   have hzd:zs.length≤dLen:=by rw [hzl]; exact Nat.min_le_right _ _
   rw [← hzs]
   have hsrc:∀ j u,(zs.map (Value.int .i64))[j]?=some u→w.cell? (p.add j)=some u:=by
    intro j u hj
    have hjl:j<zs.length:=by have:=(List.getElem?_eq_some_iff.1 hj).1; simpa using this
    have hjy:j<ys.length:=by rw [hzl] at hjl; exact Nat.lt_of_lt_of_le hjl (Nat.min_le_left _ _)
    have:=h4 j hjy
    simp only [valAt] at this
    rw [this,← hj,List.getElem?_map,List.getElem?_eq_getElem hjl]
    simp [hzs]
   have hcl:cur.toList.length=cap:=by rw [Array.length_toList,hcs]; omega
   have hr:=run_copy_row (P:=Tryz.prog) w 22 22 ty 3 g off dLen dCap p ys.length sCap cur 3 (zs.map (.int .i64)) uInts sizeInt1 hg (by rw [List.length_map]; exact hzl) hsrc (by rw [hcs,List.length_map]; omega) (ints_oneCell _ _)
   rw [show goInt (zs.map (Value.int .i64)).length=.int .i64 zs.length by rw [List.length_map]; rfl] at hr
   have hst:w.grownBy (w.setRow g (cur.toList.take off++zs.map (Value.int .i64)++cur.toList.drop (off+(zs.map (Value.int .i64)).length)).toArray) (some g) :=
    ⟨rfl,rfl,rfl,by simp,fun k _ hk=>setRow_other w g k _ (fun e=>hk (by simp [e]))⟩
   refine ⟨_,hr,?_,(Below.refl _ _).grown hst (by have:=(Array.getElem?_eq_some_iff.1 hg).1; omega) (by intro k hk; simp at hk; omega)⟩
   have hlen:(xs.take off++zs++xs.drop (off+zs.length)).length=xs.length:=by simp; omega
   refine ⟨by simp,.inr ⟨g,cap,_,by rw [hlen],hb,setRow_heap w g cur _ _ _ hg,by rw [hlen]; exact hn,hm,?_,?_⟩⟩
   ·simp only [List.size_toArray,List.length_append,List.length_take,List.length_drop,List.length_map,hcl]; omega
   ·rw [hlen]
    have e:=splice_take cur.toList (zs.map (Value.int .i64)) off xs.length (by rw [List.length_map]; omega) (by omega)
    rw [Nat.mul_one] at ht ⊢
    rw [e,ht]
    simp [List.map_take,List.map_drop]
def reps (x:Int) (m n:Nat):List Int:=List.replicate m x++List.replicate (n-m) 0
theorem reps_len (x:Int) {m n:Nat} (h:m≤n):(reps x m n).length=n:=by simp [reps]; omega
theorem reps_full (x:Int) (n:Nat):reps x n n=List.replicate n x:=by simp [reps]
theorem reps_splice (x:Int) {m n k:Nat} (hk:m+k≤n):(reps x m n).take m++List.replicate k x++(reps x m n).drop (m+k)=reps x (m+k) n:=by
 unfold reps
 rw [List.take_left' (by simp),List.drop_append,List.drop_eq_nil_of_le (by simp),List.nil_append,List.length_replicate,List.drop_replicate,List.replicate_append_replicate]
 congr 2
 omega
theorem mul_any (x y:Nat) (hx:x<100000) (hy:y<100000) (w:World) :
 Calls Tryz.prog 110 #[.int .u64 x,.int .u64 y] w fun e w'=>e=.returned (.tuple #[.int .u64 0,.int .u64 ((x*y:Nat):Int)])∧w=w':=by
 refine (Any.bits_Mul Tryz.laysMul x y (by omega) (by omega) w).mono ?_
 rintro e w' ⟨rfl,rfl⟩
 have h:x*y<10000000000:=by
  calc x*y≤99999*99999:=Nat.mul_le_mul (by omega) (by omega)
   _<_:=by decide
 rw [Nat.div_eq_of_lt (by omega),Nat.mod_eq_of_lt (by omega)]
 exact ⟨rfl,rfl⟩
theorem repeat_any (v:Value) (x:Int) (n:Nat) (w:World) (h:IntsAt w v [x]) (hn:n≤10000) :
 Calls Tryz.prog 57 #[v,.int .i64 n] w (Ret1 (fun u w'=>OwnI w.heap.size w' u (List.replicate n x)) w):=by
 have hl:=h.len
 obtain ⟨u,w1,hmk,hu,hb1⟩:=run_makeI (n:Int) n w rfl (by omega)
 have hM:=mul_any 1 n (by omega) (by omega) w
 rw [Nat.one_mul] at hM
 replace hM:=Hd hM
 obtain ⟨ua,un,uc,rfl⟩:=hu.at.shape
 go_enter Tryz.func57,Tryz.ntmps57
 have hcp:∃ w2,(Builtin.copy_ #[22,22] 3 #[.slice ua un uc,v]).run Tryz.prog w1=.ok (.int .i64 ((min 1 n:Nat):Int)) w2∧OwnI w.heap.size w2 (.slice ua un uc) (reps x (min 1 n) n)∧Below w.heap.size w1 w2:=by
  have hun:un=n:=by
   obtain ⟨a,c,e,_⟩:=hu.at
   injection e with _ e _
   rw [e]; simp
  have hv:=h.below hb1
  by_cases h0:n=0
  ·subst h0; subst hun
   obtain ⟨sp,sc,rfl,_⟩:=hv
   refine ⟨w1,run_copy_none (P:=Tryz.prog) w1 22 22 3 3 ua sp 0 uc 1 sc uInts sizeInt1 (by simp),?_,Below.refl _ _⟩
   simpa [reps] using hu
  ·subst hun
   have hva:ua=some (valAt (.slice ua un uc) 0):=by
    rcases hu.2 with ⟨e,hn0⟩ | ⟨g,cap,cur,e,_⟩
    ·rw [List.length_replicate] at hn0; exact absurd hn0 h0
    ·injection e with e1 e2 e3
     subst e1; rfl
   obtain ⟨w2,h1,h2,h3⟩:=run_copyMin (ys:=[x]) 0 3 ua un uc hu hv rfl (by rw [List.length_replicate]; omega) (by omega) (by simp) hva
   have ht:([x]:List Int).take un=[x]:=List.take_of_length_le (by show 1≤un; omega)
   rw [ht] at h1 h2
   refine ⟨w2,?_,?_,h3⟩
   ·rw [h1,Nat.min_eq_left (by omega)]; rfl
   ·rw [Nat.min_eq_left (by omega)]
    have e:=reps_splice x (m:=0) (n:=un) (k:=1) (by omega)
    have e2:reps x 0 un=List.replicate un 0:=by simp [reps]
    rw [e2] at e
    rw [← e]
    exact h2
 obtain ⟨w2,hcp,ho2,hb2⟩:=hcp
 replace hu:=Hd hu
 replace ho2:=Hd ho2
 have hb:=Hd (hb1.trans hb2)
 go_wp2_with fail
 refine hM.out.mono ?_
 rintro e w' ⟨rfl,rfl⟩
 go_wp2_with fail
 go_loopw [8] (fun mv wr=>∃ m:Nat,min 1 n≤m∧m≤n∧mv=.int .i64 m∧OwnI w.heap.size wr (.slice ua un uc) (reps x m n)∧Below w.heap.size w wr) (fun mv _=>n-(intOf mv).toNat)
 case atStart=>exact ⟨min 1 n,Nat.le_refl _,Nat.min_le_right _ _,rfl,ho2.out,hb.out⟩
 case round =>
  obtain ⟨m,hm1,hm2,rfl,ho,hbr⟩:=hrel
  obtain ⟨wo,rfl⟩:∃ wo:World,wo=wr:=⟨_,rfl⟩
  have hl2:=ho.at.len
  rw [reps_len x hm2] at hl2
  by_cases hlt:m<n
  ·have hm0:1≤m:=by omega
   obtain ⟨g,cap,cur,e,hgB,_,hnc,_⟩:∃ g cap cur,Value.slice ua un uc=.slice (some ⟨g,0,none⟩) (reps x m n).length cap∧w.heap.size≤g∧wo.heap[g]?=some (.cells cur 3 (0,0))∧(reps x m n).length≤cap∧True:=by
    rcases ho.2 with ⟨_,hn0⟩ | ⟨g,cap,cur,e,h1,h2,h3,_⟩
    ·rw [reps_len x hm2] at hn0; omega
    ·exact ⟨g,cap,cur,e,h1,h2,h3,trivial⟩
   rw [reps_len x hm2] at e hnc
   injection e with e1 e2 e3
   subst e1; subst e2; subst e3
   have hfull:=Hd hu
   clear hfull hu ho2 hcp hmk
   have hu2:=ho.at.pre m (by rw [reps_len x hm2]; exact hm2)
   have htk:(reps x m un).take m=List.replicate m x:=by unfold reps; exact List.take_left' (by simp)
   rw [htk] at hu2
   obtain ⟨k,hk⟩:∃ k,k=((List.replicate m x).take (un-m)).length:=⟨_,rfl⟩
   have hkk:k=min (un-m) m:=by rw [hk]; simp
   have hkr:(List.replicate m x).take (un-m)=List.replicate k x:=by rw [hkk,List.take_replicate]
   have hcp:∀ W:World,OwnI w.heap.size W (.slice (some ⟨g,0,none⟩) un uc) (reps x m un)→IntsAt W (.slice (some ⟨g,0,none⟩) m uc) (List.replicate m x)→∃ w2,(Builtin.copy_ #[22,22] 3 #[.slice (some ⟨g,m,none⟩) (un-m) (uc-m),.slice (some ⟨g,0,none⟩) m uc]).run Tryz.prog W=.ok (.int .i64 (k:Int)) w2∧OwnI w.heap.size w2 (.slice (some ⟨g,0,none⟩) un uc) (reps x (m+k) un)∧Below w.heap.size W w2:=by
    intro W hW hW2
    obtain ⟨w2,a,b,c⟩:=run_copyMin m 3 (some ⟨g,m,none⟩) (un-m) (uc-m) hW hW2 rfl (by rw [reps_len x hm2]; omega) (by omega) (by rw [List.length_replicate]; omega) (by rw [valAt_row])
    rw [← hk] at a b
    rw [hkr,reps_splice x (by omega)] at b
    exact ⟨w2,a,b,c⟩
   obtain ⟨w3,hc3,ho3,hb3⟩:=hcp wo.drew ho hu2
   have hwr:IntKind.i64.wrap ((m:Int)+(k:Int))=(m:Int)+k:=wrapK (by omega) (by omega)
   have hb4:Below w.heap.size w w3:=hbr.drew.trans hb3
   have hk1:1≤k:=by omega
   have hk2:m+k≤un:=by omega
   have hsl1:(0≤(m:Int)∧(m:Int)≤(un:Int)):=⟨by omega,by omega⟩
   have hsl2:(0≤(m:Int)∧(m:Int)≤(uc:Int)):=⟨by omega,by omega⟩
   have hmc:¬ uc=m:=by omega
   replace ho3:=Hd ho3
   replace ho:=Hd ho
   clear hcp hu2 htk hk hkr hkk
   go_upto_region 9 with fail
   refine wp_region_plan (fun _=>True) 9 [(0,true),(1,true),(2,true),(3,true),(4,true),(5,true),(6,true),(7,false),(8,true)] (by kernel_rfl) (by kernel_rfl) ?_
   have hS:=trivial
   refine pqY 38 hS ?_
   refine pqY 39 hS ?_
   refine pqY 40 hS ?_
   refine pqY 41 hS ?_
   refine pqY 42 hS ?_
   refine pqY 43 hS ?_
   refine pqY 44 hS ?_
   refine headC rfl (fun KK hK=>?_)
   -- CALL 7 slot (some 45)
   go_simp
   refine hK _ _ hS ?_
   clear hK KK
   refine pqY 46 hS ?_
   refine head0 ?_
   simp only [List.drop_succ_cons,List.drop_zero]
   go_wp2
   refine NoPanic.normal ?_
   go_wp2
   go_round
   case measure=>simp [intOf]; omega
   case rel=>exact ⟨m+k,by omega,hk2,by go_num,ho3.out,hb4⟩
  ·obtain rfl:m=n:=by omega
   rw [reps_full] at ho
   replace ho:=Hd ho
   go_wp2
   go_ret
   exact ⟨_,rfl,hbr,ho.out⟩
end Go.Proofs.YtkaoebokbfcmhaaGreatDoor
namespace Go.Proofs.YtkaoebokbfcmhaaGreatDoor
open Go.RowKit Go.Maps
set_option maxRecDepth 100000
theorem uIntN:Tryz.prog.underlying 3=some (.int .i64):=by kernel_rfl
theorem uMapN:Tryz.prog.underlying 218=some (.map 3 3):=by kernel_rfl
theorem keyedN:Keyed Tryz.prog 3:=int_keyed uIntN
theorem zeroN (w:World):(zeroValue 3).run Tryz.prog w=.ok (.int .i64 0) w:=by kernel_rfl
def NumMap (w:World) (b n:Nat) (M:Int→Option Int) (s:Nat):Prop :=
 ∃ D:DataW Unit,w.ownsMap Tryz.prog 3 (plainElem Tryz.prog 3) b n D∧Maps.size D=s ∧
  ∀ k,(Lit.int .i64 k).wf=true→Maps.has D (.int .i64 k)=(M k).isSome∧∀ x,M k=some x→D.atKey (.int .i64 k) (.lit (.int .i64 0))=.lit (.int .i64 x)
theorem NumMap.made (w:World):NumMap (w.alloc (.map #[] 0)) w.heap.size 0 (fun _=>none) 0 :=
 ⟨_,World.ownsMap_made w Tryz.prog 3 _,rfl,fun k _=>⟨rfl,fun x h=>by cases h⟩⟩
theorem NumMap.blk {w:World} {b n s:Nat} {M:Int→Option Int} (h:NumMap w b n M s):∃ es c,w.heap[b]?=some (.map es c):=by
 obtain ⟨D,⟨es,c,hb,_⟩,_⟩:=h
 exact ⟨es,c,hb⟩
theorem NumMap.kept {w w':World} {b n s:Nat} {M:Int→Option Int} {row:Option Nat} (h:NumMap w b n M s) (hg:w.grownBy w' row) (hne:some b≠row):NumMap w' b n M s:=by
 obtain ⟨D,h1,h2⟩:=h
 exact ⟨D,h1.kept hg hne,h2⟩
theorem NumMap.drew {w:World} {b n s:Nat} {M:Int→Option Int} (h:NumMap w b n M s):NumMap w.drew b n M s:=h
theorem NumMap.drewN {w:World} {b n s:Nat} {M:Int→Option Int} (h:NumMap w b n M s) (q:Nat):NumMap (w.drewN q) b n M s:=h
theorem NumMap.len {w:World} {b n s:Nat} {M:Int→Option Int} (h:NumMap w b n M s) (ty:TypeId):(Builtin.len_ #[218] ty #[.map (some b)]).run Tryz.prog w=.ok (.int .i64 s) w:=by
 obtain ⟨D,h1,rfl,_⟩:=h
 exact h1.len uMapN ty
theorem NumMap.lookOk {w:World} {b n s:Nat} {M:Int→Option Int} (h:NumMap w b n M s) (k:Int) (hk:(Lit.int .i64 k).wf=true) :
 ∃ c:Int,(Instr.lookup 218 (.map (some b)) (.int .i64 k) true).run Tryz.prog w=.ok (.tuple #[.int .i64 c,.bool (M k).isSome]) w:=by
 obtain ⟨D,h1,_,h3⟩:=h
 obtain ⟨v,ps,hr,hv⟩:=h1.look_ok keyedN uMapN (zeroN w) (plainElem_int uIntN (by decide)) (keyOf_int_mk uIntN hk)
 obtain ⟨c,rfl,_,_⟩:=plainElem_int_inv uIntN hv
 exact ⟨c,by rw [hr,(h3 k hk).1]⟩
theorem NumMap.look {w:World} {b n s:Nat} {M:Int→Option Int} (h:NumMap w b n M s) (k x:Int) (hk:(Lit.int .i64 k).wf=true) (hx:M k=some x) :
 (Instr.lookup 218 (.map (some b)) (.int .i64 k) false).run Tryz.prog w=.ok (.int .i64 x) w:=by
 obtain ⟨D,h1,_,h3⟩:=h
 obtain ⟨c,hr,hc,_⟩:=h1.lookup_int keyedN uMapN uIntN (zeroN w) (keyOf_int_mk uIntN hk)
 rw [(h3 k hk).2 x hx] at hc
 injection hc with hc
 injection hc with _ hc
 rw [hr,hc]
theorem NumMap.store {w:World} {b n s:Nat} {M:Int→Option Int} (h:NumMap w b n M s) (k x:Int) (hk:(Lit.int .i64 k).wf=true) (hx:(Lit.int .i64 x).wf=true) (hM:M k=none) (hn:n<1000000) :
 ∃ w',(Instr.mapUpdate 218 (.map (some b)) (.int .i64 k) (.int .i64 x)).run Tryz.prog w=.ok () w'∧NumMap w' b (n+1) (updM M k x) (s+1)∧w.grownBy w' (some b):=by
 obtain ⟨D,h1,h2,h3⟩:=h
 have hT:=h1.tidy keyedN
 have hI:=h1.isMap
 obtain ⟨w',hr,ho,hg⟩:=h1.update keyedN uMapN (by unfold maxLen; omega) (keyOf_int_mk uIntN hk) (plainElem_int uIntN hx)
 have hkl:WideAt.IsKeyLit (Lit.int .i64 k):=keyedN.key (keyOf_int_mk uIntN hk)
 refine ⟨w',hr,⟨_,ho,?_,fun q hq=>?_⟩,hg⟩
 ·rw [Maps.size_put hT,(h3 k hk).1,hM,h2]; rfl
 ·by_cases e:q=k
  ·subst e
   refine ⟨by rw [Maps.has_put_same hI hkl]; simp [updM],fun y hy=>?_⟩
   simp [updM] at hy
   subst hy
   exact Maps.atKey_put_same hI hkl _ _
  ·have hne:(Lit.int .i64 q)≠(Lit.int .i64 k):=fun h=>e (by injection h)
   refine ⟨by rw [Maps.has_put_other hne,(h3 q hq).1]; simp [updM,e],fun y hy=>?_⟩
   rw [Maps.atKey_put_other hne]
   exact (h3 q hq).2 y (by simpa [updM,e] using hy)
theorem ownI_map {B:Nat} {w w':World} {b:Nat} {es:Array MapEntry} {c:Nat} {v:Value} {xs:List Int} (h:OwnI B w v xs) (hb:w.heap[b]?=some (.map es c)) (hg:w.grownBy w' (some b)):OwnI B w' v xs:=by
 refine World.ownsRow.kept h hg ?_
 rcases h.2 with ⟨e,_⟩ | ⟨g,cap,cur,e,_,hh,_⟩
 ·left; rw [e]; rfl
 ·right; rw [e]; intro q
  have:g=b:=by injection q
  subst this; rw [hh] at hb; cases hb
end Go.Proofs.YtkaoebokbfcmhaaGreatDoor
