/-
  Texts that the proof leans on.
-/
import Derived.Test.YtindfaehjoileaaGreatDoorMSn1
import Derived.StillTail
import Derived.Deep.RegionHeld3
import Derived.Ground.MpProg
import Derived.Shelf.Strings.Prefix
import Derived.Shelf.Pu.ParseUintPublic10
import Derived.Laws.Bits64b
import Derived.BigQuiet
import Derived.Deep.DeepCutAuto
namespace Go.Proofs.YtindfaehjoileaaGreatDoor
section
variable {P:Program} {ops:Array Oper} {Q:Exit→Act→World→Prop} {md:Region.Mode} {S:World→Prop}
def wpAnyT (P:Program) (md:Region.Mode) (ops:Array Oper) (Q:Exit→Act→World→Prop) (S:World→Prop) (n:Nat):Nat→Array Bool→Act→World→Prop
 | 0,listed,a,w=>Region.ready md ops listed=[]∧Q .normal a w
 | fuel+1,listed,a,w =>
  (Region.ready md ops listed=[]→Q .normal a w) ∧
  ∀ i∈Region.ready md ops listed,wpOp P ops Q i (fun a' w'=>(i<n→S w')∧wpAnyT P md ops Q S n fuel (listed.setIfInBounds i true) a' w') a w
theorem wpAny_of_T {n:Nat}:∀ (fuel:Nat) (listed:Array Bool) (a:Act) (w:World),wpAnyT P md ops Q S n fuel listed a w→wpAny P md ops Q fuel listed a w
 | 0,_,_,_,h=>h
 | fuel+1,_,_,_,h=>⟨h.1,fun i hi=>wpOp_mono (fun a' w' h'=>wpAny_of_T fuel _ a' w' h'.2) (h.2 i hi)⟩
theorem wpAnyT_of {n:Nat}:∀ (fuel:Nat) (listed:Array Bool) (a:Act) (w:World),(∀ j,j<n→listed.getD j true=true)→wpAny P md ops Q fuel listed a w→wpAnyT P md ops Q S n fuel listed a w
 | 0,_,_,_,_,h=>h
 | fuel+1,listed,a,w,hl,h=>⟨h.1,fun i hi=>wpOp_mono (fun a' w' h'=>⟨fun hin=>Bool.noConfusion ((hl i hin).symm.trans (mem_ready.1 hi).1),wpAnyT_of fuel _ a' w' (fun j hj=>by
  by_cases hij:i=j
  ·subst hij
   rcases Nat.lt_or_ge i listed.size with h2 | h2
   ·simp [h2]
   ·rw [Array.getD_eq_getD_getElem?,Array.getElem?_eq_none (by simpa using h2)]; rfl
  ·rw [getD_set_ne true hij]; exact hl j hj) h'⟩) (h.2 i hi)⟩
theorem wpAnyT_first {n i:Nat} {oi:Oper} {v:Value} (hi:ops[i]?=some oi) (hsel:∀ (j:Nat) (o:Oper) cs b,ops[j]?=some o→o.op≠.select cs b)
 (hs:Region.sinkB md ops n=true) (hc:Region.chainB md ops n=true) (hn:n<ops.size) (hin:i<n)
 (hQ:∀ c a w,Q (.panic c) (a.put oi.dst v) w→Q (.panic c) a w) :
 ∀ (fuel:Nat) (listed:Array Bool) (a:Act) (w:World),HeadInv md ops n listed →
  (∀ j oj,ops[j]?=some oj→j≠i→listed.getD j true=false→(∀ e∈oj.after,Region.binds md e=true→e.on≠i)→oi.apart ops oj=true) →
  i∈Region.ready md ops listed→YieldsIf P ops S oi v a→S w →
  wpAnyT P md ops Q S n fuel (listed.setIfInBounds i true) (a.put oi.dst v) w→wpAnyT P md ops Q S n (fuel+1) listed a w:=by
 intro fuel
 induction fuel with
 | zero =>
  intro listed a w inv _ hr hy hS H
  refine ⟨fun h=>(by rw [h] at hr; cases hr),fun j hj=>?_⟩
  by_cases hji:j=i
  ·subst hji; exact hy.wpOp hi hS ⟨fun _=>hS,H⟩
  ·have:=ready_mono hj hji
   rw [H.1] at this
   cases this
 | succ fuel ih =>
  intro listed a w inv hfree hr hy hS H
  have hun:=(mem_ready.1 hr).1
  refine ⟨fun h=>(by rw [h] at hr; cases hr),fun j hj=>?_⟩
  have hjn:j<n:=by
   rcases Nat.lt_or_ge j n with h | h
   ·exact h
   ·exact absurd hj (tail_waits hs hc hn inv _ i rfl hin hun j h)
  by_cases hji:j=i
  ·subst hji; exact hy.wpOp hi hS ⟨fun _=>hS,H⟩
  ·have h1:=H.2 j (ready_mono hj hji)
   obtain ⟨hjun,oj,hoj,hall⟩:=mem_ready.1 hj
   have hnot:∀ e∈oj.after,Region.binds md e=true→e.on≠i:=fun e he hb heq=>by
    have h1:=hall e he hb
    rw [heq,getD_both hun] at h1
    cases h1
   have h2:=wpOp_putIf hoj (hfree j oj hoj hji hjun hnot) (fun cs b=>hsel i oi cs b hi) (fun cs b=>hsel j oj cs b hoj) hQ hy h1
   have hfree':∀ k ok,ops[k]?=some ok→k≠i→(listed.setIfInBounds j true).getD k true=false →
    (∀ e∈ok.after,Region.binds md e=true→e.on≠i)→oi.apart ops ok=true:=fun k ok hk hki hun hno=>by
    refine hfree k ok hk hki ?_ hno
    by_cases hjk:j=k
    ·subst hjk; exact hjun
    ·rw [getD_set_ne true hjk] at hun; exact hun
   refine wpOp_mono (fun a' w' h3=>⟨fun _=>h3.2.1 hjn,ih (listed.setIfInBounds j true) a' w' (inv.set hj hjn) hfree' (ready_mono hr (Ne.symm hji)) h3.1 (h3.2.1 hjn) ?_⟩) h2
   rw [Array.setIfInBounds_comm _ _ hji]
   exact h3.2.2
def wpHead (P:Program) (ops:Array Oper) (Q:Exit→Act→World→Prop) (S:World→Prop) (K:Act→World→Prop):List (Nat×Bool)→Act→World→Prop
 | [],a,w=>K a w
 | (k,true)::l,a,w=>∃ o v,ops[k]?=some o∧YieldsIf P ops S o v a∧S w∧wpHead P ops Q S K l (a.put o.dst v) w
 | (k,false)::l,a,w=>wpOp P ops Q k (fun a' w'=>S w'∧wpHead P ops Q S K l a' w') a w
def planB (md:Region.Mode) (ops:Array Oper) (n:Nat):List (Nat×Bool)→Array Bool→Bool
 | [],listed=>(List.range n).all (fun j=>listed.getD j true)&&Region.seqB md ops (ops.size-n) n listed
 | (k,true)::l,listed=>decide (k<n)&&(Region.ready md ops listed).contains k&&Region.free md ops listed k&&planB md ops n l (listed.setIfInBounds k true)
 | (k,false)::l,listed=>decide (k<n)&&decide (Region.ready md ops listed=[k])&&planB md ops n l (listed.setIfInBounds k true)
theorem wpAnyT_plan {n:Nat} {ol:List Oper} (hol:ops=ol.toArray) (hsel:Region.noSelect ops=true) (hs:Region.sinkB md ops n=true) (hc:Region.chainB md ops n=true) (hn:n<ops.size)
 (hQ:∀ c a w,Q (.panic c) a w→False) :
 ∀ (l:List (Nat×Bool)) (listed:Array Bool) (a:Act) (w:World),HeadInv md ops n listed→planB md ops n l listed=true →
  wpHead P ops Q S (fun a' w'=>wpList P ops Q (ol.drop n) a' w') l a w→wpAnyT P md ops Q S n (l.length+(ops.size-n)) listed a w
 | [],listed,a,w,inv,hB,h=>by
  simp only [planB,Bool.and_eq_true] at hB
  have hl:∀ j,j<n→listed.getD j true=true:=fun j hj=>List.all_eq_true.1 hB.1 j (List.mem_range.2 hj)
  rw [List.length_nil,Nat.zero_add]
  refine wpAnyT_of _ _ _ _ hl ?_
  have hdl:(ol.drop n).length=ops.size-n:=by subst hol; simp
  rw [← hdl]
  refine wpAny_of_seq (ol.drop n) n listed a w (fun j=>by subst hol; simp) ?_ h
  rw [hdl]; exact hB.2
 | (k,true)::l,listed,a,w,inv,hB,h=>by
  simp only [planB,Bool.and_eq_true,decide_eq_true_eq] at hB
  obtain ⟨⟨⟨hkn,hr⟩,hf⟩,hB'⟩:=hB
  obtain ⟨o,v,ho,hy,hS,h'⟩:=h
  have hr':k∈Region.ready md ops listed:=by simpa using hr
  rw [show ((k,true)::l).length+(ops.size-n)=(l.length+(ops.size-n))+1 by simp; omega]
  exact wpAnyT_first ho (Region.noSelect_spec hsel) hs hc hn hkn (fun c a w h=>(hQ c _ w h).elim) _ listed a w inv (Region.free_spec ho hf) hr' hy hS
   (wpAnyT_plan hol hsel hs hc hn hQ l _ _ _ (inv.set hr' hkn) hB' h')
 | (k,false)::l,listed,a,w,inv,hB,h=>by
  simp only [planB,Bool.and_eq_true,decide_eq_true_eq] at hB
  obtain ⟨⟨hkn,hr⟩,hB'⟩:=hB
  rw [show ((k,false)::l).length+(ops.size-n)=(l.length+(ops.size-n))+1 by simp; omega]
  refine ⟨fun h0=>(by rw [h0] at hr; cases hr),fun i hi=>?_⟩
  have hi':=hi
  rw [hr] at hi'
  obtain rfl:i=k:=by simpa using hi'
  exact wpOp_mono (fun a' w' h3=>⟨fun _=>h3.1,wpAnyT_plan hol hsel hs hc hn hQ l _ a' w' (inv.set hi hkn) hB' h3.2⟩) h
def tailB (md:Region.Mode) (ops:Array Oper) (n:Nat) (plan:List (Nat×Bool)):Bool :=
 Region.noSelect ops&&decide (n<ops.size)&&Region.sinkB md ops n&&Region.chainB md ops n&&decide (plan.length=n)&&planB md ops n plan (Array.replicate ops.size false)
theorem wp_region_plan {id:Nat} {a:Act} {w:World} {l:List Oper} (S:World→Prop) (n:Nat) (plan:List (Nat×Bool)) (hm:P.follows .mixedOrders=true) (hB:tailB .any l.toArray n plan=true)
 (h:wpHead P l.toArray (NoPanic Q) S (fun a' w'=>wpList P l.toArray (NoPanic Q) (l.drop n) a' w') plan a w.drew):(Code.region id l.toArray true).wp P Q a w:=by
 simp only [tailB,Bool.and_eq_true,decide_eq_true_eq] at hB
 obtain ⟨⟨⟨⟨⟨hsel,hn⟩,hs⟩,hc⟩,hlen⟩,hp⟩:=hB
 refine wp_region_noPanic ?_
 refine wp_region_any hm ?_
 have inv0:HeadInv .any l.toArray n (Array.replicate l.toArray.size false) :=
  ⟨by simp,fun j oj _ hl=>(by rw [getD_replicate_false] at hl; cases hl),fun t _ ht=>getD_in (by simpa using ht) (getD_replicate_false _ _)⟩
 have:=wpAnyT_plan (md:=.any) (Q:=NoPanic Q) (S:=S) rfl hsel hs hc hn (fun _ _ _ h=>h) plan _ a _ inv0 hp h
 rw [hlen,show n+(l.toArray.size-n)=l.toArray.size by omega] at this
 exact wpAny_of_T _ _ _ _ this
theorem headY {K:Act→World→Prop} {k:Nat} {o:Oper} {v:Value} {l:List (Nat×Bool)} {a:Act} {w:World} (d:Option Tmp) (ho:ops[k]?=some o) (hd:o.dst=d)
 (hy:YieldsIf P ops S o v a) (hS:S w) (h:wpHead P ops Q S K l (a.put d v) w):wpHead P ops Q S K ((k,true)::l) a w:=by
 subst hd; exact ⟨o,v,ho,hy,hS,h⟩
theorem headC {K:Act→World→Prop} {k:Nat} {o:Oper} {l:List (Nat×Bool)} {a:Act} {w:World} (ho:ops[k]?=some o)
 (h:∀ K':Act→World→Prop,(∀ a w,S w→wpHead P ops Q S K l a w→K' a w)→if Region.wanted o (yielded ops a.tmps)=true then Oper.wp P o a w K' Q else K' (a.put o.dst undef) w) :
 wpHead P ops Q S K ((k,false)::l) a w:=by
 show wpOp _ _ _ _ _ _ _
 unfold wpOp
 simp only [ho]
 have:=h (fun a' w'=>S w'∧wpHead P ops Q S K l a' w') (fun a w h1 h2=>⟨h1,h2⟩)
 split
 ·rename_i hw; rw [if_pos hw] at this; exact .inl this
 ·rename_i hw; rw [if_neg hw] at this; exact this
theorem head0 {K:Act→World→Prop} {a:Act} {w:World} (h:K a w):wpHead P ops Q S K [] a w:=h
end
section
variable {P:Program} {ops:Array Oper} {Q:Exit→Act→World→Prop} {S:World→Prop}
theorem pqY {K:Act→World→Prop} {k:Nat} {o:Oper} {v:Value} {l:List (Nat×Bool)} {a a':Act} {w:World} (d:Tmp) (hS:S w) (h:wpHead P ops Q S K l a' w) (ho:ops[k]?=some o:=by exact rfl) (hd:o.dst=some d:=by exact rfl)
 (hw:Region.wanted o (yielded ops a.tmps)=true:=by rfl) (hy:∀ W,S W→(execOp a.eval o).run P W=.ok (.value v) W:=by intro W' hs; (try subst hs); go_simp; (try with_reducible rfl)) (ha:a.put (some d) v=a':=by simp only [pq]; exact rfl) :
 wpHead P ops Q S K ((k,true)::l) a w:=by
 subst ha; exact headY (some d) ho hd (.inl ⟨hw,hy⟩) hS h
theorem pqN {K:Act→World→Prop} {k:Nat} {o:Oper} {l:List (Nat×Bool)} {a a':Act} {w:World} (d:Tmp) (hS:S w) (h:wpHead P ops Q S K l a' w) (ho:ops[k]?=some o:=by exact rfl) (hd:o.dst=some d:=by exact rfl)
 (hw:Region.wanted o (yielded ops a.tmps)=false:=by rfl) (ha:a.put (some d) undef=a':=by simp only [pq]; exact rfl):wpHead P ops Q S K ((k,true)::l) a w:=by
 subst ha; exact headY (some d) ho hd (.inr ⟨hw,rfl⟩) hS h
end
open Go.RowKit
set_option maxRecDepth 100000
set_option maxHeartbeats 8000000
theorem Box3.put0 {w:World} {b:Nat} {x0 x1 x2:Value} (h:Box3 w b x0 x1 x2) (u:Value):Box3 (w.setCell ⟨b,0,none⟩ u) b u x1 x2:=by
 obtain ⟨⟨h0,h1,h2⟩,f0,f1,f2⟩:=h
 refine ⟨⟨World.cell?_setCell_same _ _ _ h0,?_,?_⟩,?_,?_,?_⟩
 ·rw [World.cell?_setCell_other _ _ _ _ (by simp)]; exact h1
 ·rw [World.cell?_setCell_other _ _ _ _ (by simp)]; exact h2
 ·simpa [go_sem] using f0
 ·simpa [go_sem] using f1
 ·simpa [go_sem] using f2
theorem Box3.put1 {w:World} {b:Nat} {x0 x1 x2:Value} (h:Box3 w b x0 x1 x2) (u:Value):Box3 (w.setCell ⟨b,1,none⟩ u) b x0 u x2:=by
 obtain ⟨⟨h0,h1,h2⟩,f0,f1,f2⟩:=h
 refine ⟨⟨?_,World.cell?_setCell_same _ _ _ h1,?_⟩,?_,?_,?_⟩
 ·rw [World.cell?_setCell_other _ _ _ _ (by simp)]; exact h0
 ·rw [World.cell?_setCell_other _ _ _ _ (by simp)]; exact h2
 ·simpa [go_sem] using f0
 ·simpa [go_sem] using f1
 ·simpa [go_sem] using f2
def argZ:Value:=.agg #[.string ⟨#[]⟩,.int .i64 0,.slice none 0 0]
theorem read_space (n:Nat) (hn:n≤4294967296) (w:World) :
 Calls Tryz.prog 11 #[.string (spaceB n)] w (Ret3 (fun x y z _=>x=.pointer none∧y=argZ∧z=.bool true) w):=by
 obtain ⟨w0,hw0⟩:∃ W,w.alloc (.cells #[.string ⟨#[]⟩,.int .i64 0,.slice none 0 0] 41)=W:=⟨_,rfl⟩
 have b0:Below w.heap.size w w0:=by rw [← hw0]; exact belowAlloc _ _
 have q0:Box3 w0 w.heap.size (.string ⟨#[]⟩) (.int .i64 0) (.slice none 0 0):=by rw [← hw0]; simp [Box3,go_sem]
 have hfl:=fields_any (spaceB n) w0 (by rw [spaceB_size]; exact hn)
 rw [fields_space] at hfl
 replace hfl:=Hd hfl
 replace hw0:=Hd hw0
 replace b0:=Hd b0
 replace q0:=Hd q0
 go_enter Tryz.func11,Tryz.ntmps11
 go_upto_region 1 with fail
 rw [hw0.out]
 go_wp2_with fail
 refine hfl.out.mono ?_
 rintro e w1 ⟨A,rfl,hA,-,b1⟩
 have bl:=belowAlloc w1 (.cells #[.string ⟨#[]⟩,.int .i64 0,.slice none 0 0] 41)
 have q1:Box3 (w1.alloc (.cells #[.string ⟨#[]⟩,.int .i64 0,.slice none 0 0] 41)) w1.heap.size (.string ⟨#[]⟩) (.int .i64 0) (.slice none 0 0):=by simp [Box3,go_sem]
 have bb:=Below.step (Below.step b0.out b1) bl
 have q2:=(q0.out.below b1).below bl
 simp only [List.length_nil] at *
 go_upto_region 4 with fail
 obtain ⟨W,hW⟩:∃ W,(w1.alloc (.cells #[.string ⟨#[]⟩,.int .i64 0,.slice none 0 0] 41)).drew=W:=⟨_,rfl⟩
 have bW:Below w.heap.size w W:=by rw [← hW]; exact bb.drew
 have qW:Box3 W w.heap.size (.string ⟨#[]⟩) (.int .i64 0) (.slice none 0 0):=by rw [← hW]; exact q2.below ((Below.refl _ _).drew)
 have qV:Box3 W w1.heap.size (.string ⟨#[]⟩) (.int .i64 0) (.slice none 0 0):=by rw [← hW]; exact q1.below ((Below.refl _ _).drew)
 obtain ⟨ab,hab⟩:∃ ab,w1.heap.size=ab:=⟨_,rfl⟩
 rw [hab] at qV
 have hS:W.cell? ⟨ab,0,none⟩=some (.string ⟨#[]⟩)∧W.cell? ⟨ab,1,none⟩=some (.int .i64 0)∧W.cell? ⟨ab,2,none⟩=some (.slice none 0 0):=qV.1
 rw [hab]
 refine wp_region_plan (fun w'=>w'.cell? ⟨ab,0,none⟩=some (.string ⟨#[]⟩)∧w'.cell? ⟨ab,1,none⟩=some (.int .i64 0)∧w'.cell? ⟨ab,2,none⟩=some (.slice none 0 0)) 3 [(0,true),(1,true),(2,false)] (by kernel_rfl) (by kernel_rfl) ?_
 rw [hW]
 have hne:w.heap.size≠ab:=by
  have h1:=b1.size
  have h2:w0.heap.size=w.heap.size+1:=by rw [← hw0.out]; simp
  omega
 have qV2:=qV.st3_far hne (.string ⟨#[]⟩) (.int .i64 0) (.slice none 0 0)
 have qW2:=qW.st3 (.string ⟨#[]⟩) (.int .i64 0) (.slice none 0 0)
 have bE:=below_set3 bW (Nat.le_refl _) (.string ⟨#[]⟩) (.int .i64 0) (.slice none 0 0)
 unfold st3 at qV2 qW2
 obtain ⟨⟨z0,z1,z2⟩,f0,f1,f2⟩:=qW
 clear hW q1 q2 bl b1 hfl
 refine pqY 23 hS ?_
 refine pqY 2 hS ?_
 refine headC rfl (fun KK hK=>?_)
 go_simp
 refine hK _ _ qV2.1 ?_
 clear hK KK hS z0 z1 z2 f0 f1 f2
 refine head0 ?_
 simp only [List.drop_succ_cons,List.drop_zero]
 go_wp2
 refine NoPanic.normal ?_
 obtain ⟨⟨z0,z1,z2⟩,f0,f1,f2⟩:=qW2
 go_wp2
 exact bodyPost_ret (v:=.tuple #[.pointer none,argZ,.bool true]) (by simp [results,Tryz.results11,go_sem,z0,z1,z2,argZ]) rfl ⟨_,_,_,rfl,bE,rfl,rfl,rfl⟩
def ReadIs (P:ByteArray→ByteArray→Fn→Array Value→Array Value→List (Addr×Value)→Prop) (t:ByteArray) (n:Int) (B:Nat) (x y z:Value) (w':World):Prop :=
 ∃ cb fo wa fn a b L,x=.pointer (some ⟨cb,0,none⟩)∧y=.agg #[.string t,.int .i64 n,.slice none 0 0]∧z=.bool true∧B≤cb∧Box3 w' cb (.string fo) (.string wa) (.func fn a b)∧P fo wa fn a b L∧∀ p∈L,B≤p.1.block∧w'.cell? p.1=some p.2
theorem read_cmd0 (line nm:ByteArray) (P:ByteArray→ByteArray→Fn→Array Value→Array Value→List (Addr×Value)→Prop) (w:World) (hs:line.size≤4294967296)
 (hf:Lib.goFieldsP isSp line=[nm]) (hi:0<nm.size) (h35:(((nm[0]'hi).toNat:Int)==35)=false) (hn:Named nm P) (hfo:∀ fo wa fn a b L,P fo wa fn a b L→fo=⟨#[]⟩) :
 Calls Tryz.prog 11 #[.string line] w (Ret3 (fun x y z w'=>ReadIs P ⟨#[]⟩ 0 w.heap.size x y z w') w):=by
 obtain ⟨w0,hw0⟩:∃ W,w.alloc (.cells #[.string ⟨#[]⟩,.int .i64 0,.slice none 0 0] 41)=W:=⟨_,rfl⟩
 have b0:Below w.heap.size w w0:=by rw [← hw0]; exact belowAlloc _ _
 have q0:Box3 w0 w.heap.size (.string ⟨#[]⟩) (.int .i64 0) (.slice none 0 0):=by rw [← hw0]; simp [Box3,go_sem]
 have hfl:=fields_any line w0 hs
 rw [hf] at hfl
 replace hfl:=Hd hfl
 replace hw0:=Hd hw0
 replace b0:=Hd b0
 replace q0:=Hd q0
 replace hfo:=Hd hfo
 clear hf
 go_enter Tryz.func11,Tryz.ntmps11
 go_upto_region 1 with fail
 rw [hw0.out]
 go_wp2_with fail
 refine hfl.out.mono ?_
 rintro e w1 ⟨A,rfl,hA,hcs,b1⟩
 have c0:=hcs 0 nm rfl
 clear hcs
 obtain ⟨w2,hw2⟩:∃ W,w1.alloc (.cells #[.string ⟨#[]⟩,.int .i64 0,.slice none 0 0] 41)=W:=⟨_,rfl⟩
 have bl:Below w1.heap.size w1 w2:=by rw [← hw2]; exact belowAlloc _ _
 have q1:Box3 w2 w1.heap.size (.string ⟨#[]⟩) (.int .i64 0) (.slice none 0 0):=by rw [← hw2]; simp [Box3,go_sem]
 have hs1:w1.heap.size<w2.heap.size:=by rw [← hw2]; simp
 have bb:=Below.step (Below.step b0.out b1) bl
 have q2:=(q0.out.below b1).below bl
 have c2:=(bl.cell (World.block_lt_of_cell? _ _ c0)).trans c0
 have hne:w.heap.size<w1.heap.size:=by
  have h1:=b1.size
  have h2:w0.heap.size=w.heap.size+1:=by rw [← hw0.out]; simp
  omega
 obtain ⟨ab,hab⟩:∃ ab,w1.heap.size=ab:=⟨_,rfl⟩
 rw [hab] at q1 hs1 hne
 simp only [List.length_cons,List.length_nil] at *
 replace hw2:=Hd hw2
 replace hab:=Hd hab
 replace q1:=Hd q1
 replace q2:=Hd q2
 replace bb:=Hd bb
 clear bl b1 c0 hfl hw0 q0 b0
 go_upto_region 3 with fail
 rw [hw2.out,hab.out]
 go_wp2_with fail
 refine (find_any hn w2).mono ?_
 rintro e w3 ⟨x,y,rfl,b3,⟨fo,wa,fn,a,b,L,rfl,hP,hL⟩,rfl⟩
 obtain rfl:=hfo.out _ _ _ _ _ _ hP
 obtain ⟨w4,hw4⟩:∃ W,w3.alloc (.cells #[.string ⟨#[]⟩,.string wa,.func fn a b] 68)=W:=⟨_,rfl⟩
 have bl:Below w3.heap.size w3 w4:=by rw [← hw4]; exact belowAlloc _ _
 have qc:Box3 w4 w3.heap.size (.string ⟨#[]⟩) (.string wa) (.func fn a b):=by rw [← hw4]; simp [Box3,go_sem]
 have q3:=(q1.out.below b3).below bl
 have q4:=(q2.out.below b3).below bl
 have bb4:=Below.step (Below.step bb.out b3) bl
 have hcb:w2.heap.size≤w3.heap.size:=b3.size
 have hB:w.heap.size≤w2.heap.size:=bb.out.size
 have hL4:∀ p∈L,w2.heap.size≤p.1.block∧w4.cell? p.1=some p.2:=fun p hp=>⟨(hL p hp).1,(bl.cell (World.block_lt_of_cell? _ _ (hL p hp).2)).trans (hL p hp).2⟩
 obtain ⟨cb,hcb'⟩:∃ cb,w3.heap.size=cb:=⟨_,rfl⟩
 rw [hcb'] at qc hcb
 have z0:=qc.1.1
 replace hcb':=Hd hcb'
 replace hw4:=Hd hw4
 replace qc:=Hd qc
 replace q3:=Hd q3
 replace q4:=Hd q4
 replace bb4:=Hd bb4
 replace hL4:=Hd hL4
 replace hP:=Hd hP
 clear hL b3 bl c2 q1 q2
 go_upto_region 6 with fail
 rw [hw4.out,hcb'.out]
 go_upto_region 9 with fail
 go_loopw [46] (fun iv wr=>iv=.int .i64 0∧wr=w4) (fun _ _=>0)
 case atStart=>exact ⟨rfl,rfl⟩
 case round =>
  obtain ⟨rfl,hwr⟩:=hrel
  subst hwr
  go_upto_region 14 with fail
  obtain ⟨W,hW⟩:∃ W,wr.drew=W:=⟨_,rfl⟩
  have bd:Below wr.heap.size wr W:=by rw [← hW]; exact (Below.refl _ _).drew
  have bW:=Below.step bb4.out bd
  have qW:=q4.out.below bd
  have qV:=q3.out.below bd
  have qC:=qc.out.below bd
  have hLW:∀ p∈L,w2.heap.size≤p.1.block∧W.cell? p.1=some p.2:=fun p hp=>⟨(hL4.out p hp).1,(bd.cell (World.block_lt_of_cell? _ _ (hL4.out p hp).2)).trans (hL4.out p hp).2⟩
  have hS:W.cell? ⟨ab,0,none⟩=some (.string ⟨#[]⟩)∧W.cell? ⟨ab,1,none⟩=some (.int .i64 0)∧W.cell? ⟨ab,2,none⟩=some (.slice none 0 0):=qV.1
  have qV2:=qV.st3_far (show w.heap.size≠ab by omega) (.string ⟨#[]⟩) (.int .i64 0) (.slice none 0 0)
  have qC2:=qC.st3_far (show w.heap.size≠cb by omega) (.string ⟨#[]⟩) (.int .i64 0) (.slice none 0 0)
  have qW2:=qW.st3 (.string ⟨#[]⟩) (.int .i64 0) (.slice none 0 0)
  have bE:=below_set3 bW (Nat.le_refl _) (.string ⟨#[]⟩) (.int .i64 0) (.slice none 0 0)
  have hLE:∀ p∈L,w.heap.size≤p.1.block∧(st3 W w.heap.size (.string ⟨#[]⟩) (.int .i64 0) (.slice none 0 0)).cell? p.1=some p.2:=fun p hp=>⟨Nat.le_trans hB (hLW p hp).1,by unfold st3; rw [far_cell3 (by have:=(hLW p hp).1; have:=hs1; omega)]; exact (hLW p hp).2⟩
  unfold st3 at qV2 qW2 qC2 hLE
  obtain ⟨⟨z0,z1,z2⟩,f0,f1,f2⟩:=qW
  refine wp_region_plan (fun w'=>w'.cell? ⟨ab,0,none⟩=some (.string ⟨#[]⟩)∧w'.cell? ⟨ab,1,none⟩=some (.int .i64 0)∧w'.cell? ⟨ab,2,none⟩=some (.slice none 0 0)) 3 [(0,true),(1,true),(2,false)] (by kernel_rfl) (by kernel_rfl) ?_
  rw [hW]
  replace qC2:=Hd qC2
  replace hLE:=Hd hLE
  replace bE:=Hd bE
  replace qW2:=Hd qW2
  clear hW bd bW qV qC hLW
  refine pqY 60 hS ?_
  refine pqY 2 hS ?_
  refine headC rfl (fun KK hK=>?_)
  go_simp
  refine hK _ _ qV2.1 ?_
  clear hK KK hS z0 z1 z2 f0 f1 f2 qV2
  refine head0 ?_
  simp only [List.drop_succ_cons,List.drop_zero]
  go_wp2
  refine NoPanic.normal ?_
  obtain ⟨⟨y0,y1,y2⟩,-,-,-⟩:=qW2.out
  go_wp2
  exact bodyPost_ret (v:=.tuple #[.pointer (some ⟨cb,0,none⟩),.agg #[.string ⟨#[]⟩,.int .i64 0,.slice none 0 0],.bool true]) (by simp [results,Tryz.results11,go_sem,y0,y1,y2]) rfl ⟨_,_,_,rfl,bE.out,cb,_,_,_,_,_,L,rfl,rfl,rfl,by omega,qC2.out,hP.out,hLE.out⟩
theorem read_cmd1 (line nm s t:ByteArray) (c n:Int) (P:ByteArray→ByteArray→Fn→Array Value→Array Value→List (Addr×Value)→Prop) (w:World) (hs:line.size≤4294967296)
 (hf:Lib.goFieldsP isSp line=[nm,s]) (hi:0<nm.size) (h35:(((nm[0]'hi).toNat:Int)==35)=false) (hn:Named nm P) (hfo:∀ fo wa fn a b L,P fo wa fn a b L→(fo=⟨#[110]⟩∧c=110)∨(fo=⟨#[116]⟩∧c=116))
 (hform:∀ g W,Box3 W g (.string ⟨#[]⟩) (.int .i64 0) (.slice none 0 0)→Calls Tryz.prog 23 #[.pointer (some ⟨g,0,none⟩),.int .u8 c,.string s] W (fun e W'=>e=.returned (.bool true)∧∃ W1 i v,Below W.heap.size W W1∧W'=W1.setCell ⟨g,i,none⟩ v∧Box3 W' g (.string t) (.int .i64 n) (.slice none 0 0))) :
 Calls Tryz.prog 11 #[.string line] w (Ret3 (fun x y z w'=>ReadIs P t n w.heap.size x y z w') w):=by
 obtain ⟨w0,hw0⟩:∃ W,w.alloc (.cells #[.string ⟨#[]⟩,.int .i64 0,.slice none 0 0] 41)=W:=⟨_,rfl⟩
 have b0:Below w.heap.size w w0:=by rw [← hw0]; exact belowAlloc _ _
 have q0:Box3 w0 w.heap.size (.string ⟨#[]⟩) (.int .i64 0) (.slice none 0 0):=by rw [← hw0]; simp [Box3,go_sem]
 have hfl:=fields_any line w0 hs
 rw [hf] at hfl
 replace hfl:=Hd hfl
 replace hw0:=Hd hw0
 replace b0:=Hd b0
 replace q0:=Hd q0
 replace hfo:=Hd hfo
 replace hform:=Hd hform
 clear hf
 go_enter Tryz.func11,Tryz.ntmps11
 go_upto_region 1 with fail
 rw [hw0.out]
 go_wp2_with fail
 refine hfl.out.mono ?_
 rintro e w1 ⟨A,rfl,hA,hcs,b1⟩
 have c0:=hcs 0 nm rfl
 have c1:=hcs 1 s rfl
 clear hcs
 obtain ⟨w2,hw2⟩:∃ W,w1.alloc (.cells #[.string ⟨#[]⟩,.int .i64 0,.slice none 0 0] 41)=W:=⟨_,rfl⟩
 have bl:Below w1.heap.size w1 w2:=by rw [← hw2]; exact belowAlloc _ _
 have q1:Box3 w2 w1.heap.size (.string ⟨#[]⟩) (.int .i64 0) (.slice none 0 0):=by rw [← hw2]; simp [Box3,go_sem]
 have hs1:w1.heap.size<w2.heap.size:=by rw [← hw2]; simp
 have bb:=Below.step (Below.step b0.out b1) bl
 have q2:=(q0.out.below b1).below bl
 have c2:=(bl.cell (World.block_lt_of_cell? _ _ c0)).trans c0
 have c12:=(bl.cell (World.block_lt_of_cell? _ _ c1)).trans c1
 have hne:w.heap.size<w1.heap.size:=by
  have h1:=b1.size
  have h2:w0.heap.size=w.heap.size+1:=by rw [← hw0.out]; simp
  omega
 obtain ⟨ab,hab⟩:∃ ab,w1.heap.size=ab:=⟨_,rfl⟩
 rw [hab] at q1 hs1 hne
 simp only [List.length_cons,List.length_nil] at *
 replace hw2:=Hd hw2
 replace hab:=Hd hab
 replace q1:=Hd q1
 replace q2:=Hd q2
 replace bb:=Hd bb
 replace c12:=Hd c12
 clear bl b1 c0 c1 hfl hw0 q0 b0
 go_upto_region 3 with fail
 rw [hw2.out,hab.out]
 go_wp2_with fail
 refine (find_any hn w2).mono ?_
 rintro e w3 ⟨x,y,rfl,b3,⟨fo,wa,fn,a,b,L,rfl,hP,hL⟩,rfl⟩
 rcases hfo.out _ _ _ _ _ _ hP with ⟨rfl,rfl⟩ | ⟨rfl,rfl⟩
 ·obtain ⟨w4,hw4⟩:∃ W,w3.alloc (.cells #[.string ⟨#[110]⟩,.string wa,.func fn a b] 68)=W:=⟨_,rfl⟩
  have bl:Below w3.heap.size w3 w4:=by rw [← hw4]; exact belowAlloc _ _
  have qc:Box3 w4 w3.heap.size (.string ⟨#[110]⟩) (.string wa) (.func fn a b):=by rw [← hw4]; simp [Box3,go_sem]
  have q3:=(q1.out.below b3).below bl
  have q4:=(q2.out.below b3).below bl
  have c14:=(bl.cell (World.block_lt_of_cell? _ _ ((b3.cell (World.block_lt_of_cell? _ _ c12.out)).trans c12.out))).trans ((b3.cell (World.block_lt_of_cell? _ _ c12.out)).trans c12.out)
  have bb4:=Below.step (Below.step bb.out b3) bl
  have hcb:w2.heap.size≤w3.heap.size:=b3.size
  have hB:w.heap.size≤w2.heap.size:=bb.out.size
  have hL4:∀ p∈L,w2.heap.size≤p.1.block∧w4.cell? p.1=some p.2:=fun p hp=>⟨(hL p hp).1,(bl.cell (World.block_lt_of_cell? _ _ (hL p hp).2)).trans (hL p hp).2⟩
  obtain ⟨cb,hcb'⟩:∃ cb,w3.heap.size=cb:=⟨_,rfl⟩
  rw [hcb'] at qc hcb
  have z0:=qc.1.1
  replace hcb':=Hd hcb'
  replace hw4:=Hd hw4
  replace qc:=Hd qc
  replace q3:=Hd q3
  replace q4:=Hd q4
  replace bb4:=Hd bb4
  replace hL4:=Hd hL4
  replace hP:=Hd hP
  replace c14:=Hd c14
  clear hL b3 bl c2 q1 q2 c12
  go_upto_region 6 with fail
  rw [hw4.out,hcb'.out]
  go_upto_region 9 with fail
  go_loopw [46] (fun iv wr=>(iv=.int .i64 0∧wr=w4)∨(iv=.int .i64 1∧Box3 wr ab (.string t) (.int .i64 n) (.slice none 0 0)∧Box3 wr cb (.string ⟨#[110]⟩) (.string wa) (.func fn a b)∧Box3 wr w.heap.size (.string ⟨#[]⟩) (.int .i64 0) (.slice none 0 0)∧Below w.heap.size w wr∧∀ p∈L,w2.heap.size≤p.1.block∧wr.cell? p.1=some p.2)) (fun iv _=>2-(intOf iv).toNat)
  case atStart=>exact .inl ⟨rfl,rfl⟩
  case round =>
   rcases hrel with ⟨rfl,hwr⟩ | ⟨rfl,q3,qc,q4,bb4,hL4⟩
   ·subst hwr
    have hF:=hform.out ab wr q3.out
    replace hF:=Hd hF
    have c15:=c14.out
    go_wp2_with fail
    refine hF.out.mono ?_
    rintro e w5 ⟨rfl,w6,i,v,b6,rfl,q5⟩
    have qc5:=(qc.out.below b6).far (show ab≠cb by omega) i v
    have q45:=(q4.out.below b6).far (show ab≠w.heap.size by omega) i v
    have bb5:=(Below.step bb4.out b6).setCell (p:=⟨ab,i,none⟩) (show w.heap.size≤ab by omega) v
    have hL5:∀ p∈L,w2.heap.size≤p.1.block∧(w6.setCell ⟨ab,i,none⟩ v).cell? p.1=some p.2:=fun p hp=>by
     have h1:=hL4.out p hp
     refine ⟨h1.1,?_⟩
     rw [World.cell?_setCell_other _ _ _ _ (fun e=>by have:=h1.1; rw [← e] at this; exact absurd this (by show ¬ w2.heap.size≤ab; omega))]
     exact (b6.cell (World.block_lt_of_cell? _ _ h1.2)).trans h1.2
    replace qc5:=Hd qc5
    replace q45:=Hd q45
    replace bb5:=Hd bb5
    replace hL5:=Hd hL5
    replace q5:=Hd q5
    clear b6 hF c15
    go_wp2
    refine ⟨.inr ⟨rfl,q5.out,qc5.out,q45.out,bb5.out,hL5.out⟩,by simp [intOf]⟩
   replace q3:=Hd q3
   replace qc:=Hd qc
   replace q4:=Hd q4
   replace bb4:=Hd bb4
   replace hL4:=Hd hL4
   go_upto_region 14 with fail
   obtain ⟨W,hW⟩:∃ W,wr.drew=W:=⟨_,rfl⟩
   have bd:Below wr.heap.size wr W:=by rw [← hW]; exact (Below.refl _ _).drew
   have bW:=Below.step bb4.out bd
   have qW:=q4.out.below bd
   have qV:=q3.out.below bd
   have qC:=qc.out.below bd
   have hLW:∀ p∈L,w2.heap.size≤p.1.block∧W.cell? p.1=some p.2:=fun p hp=>⟨(hL4.out p hp).1,(bd.cell (World.block_lt_of_cell? _ _ (hL4.out p hp).2)).trans (hL4.out p hp).2⟩
   have hS:W.cell? ⟨ab,0,none⟩=some (.string t)∧W.cell? ⟨ab,1,none⟩=some (.int .i64 n)∧W.cell? ⟨ab,2,none⟩=some (.slice none 0 0):=qV.1
   have qV2:=qV.st3_far (show w.heap.size≠ab by omega) (.string t) (.int .i64 n) (.slice none 0 0)
   have qC2:=qC.st3_far (show w.heap.size≠cb by omega) (.string t) (.int .i64 n) (.slice none 0 0)
   have qW2:=qW.st3 (.string t) (.int .i64 n) (.slice none 0 0)
   have bE:=below_set3 bW (Nat.le_refl _) (.string t) (.int .i64 n) (.slice none 0 0)
   have hLE:∀ p∈L,w.heap.size≤p.1.block∧(st3 W w.heap.size (.string t) (.int .i64 n) (.slice none 0 0)).cell? p.1=some p.2:=fun p hp=>⟨Nat.le_trans hB (hLW p hp).1,by unfold st3; rw [far_cell3 (by have:=(hLW p hp).1; have:=hs1; omega)]; exact (hLW p hp).2⟩
   unfold st3 at qV2 qW2 qC2 hLE
   obtain ⟨⟨z0,z1,z2⟩,f0,f1,f2⟩:=qW
   refine wp_region_plan (fun w'=>w'.cell? ⟨ab,0,none⟩=some (.string t)∧w'.cell? ⟨ab,1,none⟩=some (.int .i64 n)∧w'.cell? ⟨ab,2,none⟩=some (.slice none 0 0)) 3 [(0,true),(1,true),(2,false)] (by kernel_rfl) (by kernel_rfl) ?_
   rw [hW]
   replace qC2:=Hd qC2
   replace hLE:=Hd hLE
   replace bE:=Hd bE
   replace qW2:=Hd qW2
   clear hW bd bW qV qC hLW
   refine pqY 60 hS ?_
   refine pqY 2 hS ?_
   refine headC rfl (fun KK hK=>?_)
   go_simp
   refine hK _ _ qV2.1 ?_
   clear hK KK hS z0 z1 z2 f0 f1 f2 qV2
   refine head0 ?_
   simp only [List.drop_succ_cons,List.drop_zero]
   go_wp2
   refine NoPanic.normal ?_
   obtain ⟨⟨y0,y1,y2⟩,-,-,-⟩:=qW2.out
   go_wp2
   exact bodyPost_ret (v:=.tuple #[.pointer (some ⟨cb,0,none⟩),.agg #[.string t,.int .i64 n,.slice none 0 0],.bool true]) (by simp [results,Tryz.results11,go_sem,y0,y1,y2]) rfl ⟨_,_,_,rfl,bE.out,cb,_,_,_,_,_,L,rfl,rfl,rfl,by omega,qC2.out,hP.out,hLE.out⟩
 ·obtain ⟨w4,hw4⟩:∃ W,w3.alloc (.cells #[.string ⟨#[116]⟩,.string wa,.func fn a b] 68)=W:=⟨_,rfl⟩
  have bl:Below w3.heap.size w3 w4:=by rw [← hw4]; exact belowAlloc _ _
  have qc:Box3 w4 w3.heap.size (.string ⟨#[116]⟩) (.string wa) (.func fn a b):=by rw [← hw4]; simp [Box3,go_sem]
  have q3:=(q1.out.below b3).below bl
  have q4:=(q2.out.below b3).below bl
  have c14:=(bl.cell (World.block_lt_of_cell? _ _ ((b3.cell (World.block_lt_of_cell? _ _ c12.out)).trans c12.out))).trans ((b3.cell (World.block_lt_of_cell? _ _ c12.out)).trans c12.out)
  have bb4:=Below.step (Below.step bb.out b3) bl
  have hcb:w2.heap.size≤w3.heap.size:=b3.size
  have hB:w.heap.size≤w2.heap.size:=bb.out.size
  have hL4:∀ p∈L,w2.heap.size≤p.1.block∧w4.cell? p.1=some p.2:=fun p hp=>⟨(hL p hp).1,(bl.cell (World.block_lt_of_cell? _ _ (hL p hp).2)).trans (hL p hp).2⟩
  obtain ⟨cb,hcb'⟩:∃ cb,w3.heap.size=cb:=⟨_,rfl⟩
  rw [hcb'] at qc hcb
  have z0:=qc.1.1
  replace hcb':=Hd hcb'
  replace hw4:=Hd hw4
  replace qc:=Hd qc
  replace q3:=Hd q3
  replace q4:=Hd q4
  replace bb4:=Hd bb4
  replace hL4:=Hd hL4
  replace hP:=Hd hP
  replace c14:=Hd c14
  clear hL b3 bl c2 q1 q2 c12
  go_upto_region 6 with fail
  rw [hw4.out,hcb'.out]
  go_upto_region 9 with fail
  go_loopw [46] (fun iv wr=>(iv=.int .i64 0∧wr=w4)∨(iv=.int .i64 1∧Box3 wr ab (.string t) (.int .i64 n) (.slice none 0 0)∧Box3 wr cb (.string ⟨#[116]⟩) (.string wa) (.func fn a b)∧Box3 wr w.heap.size (.string ⟨#[]⟩) (.int .i64 0) (.slice none 0 0)∧Below w.heap.size w wr∧∀ p∈L,w2.heap.size≤p.1.block∧wr.cell? p.1=some p.2)) (fun iv _=>2-(intOf iv).toNat)
  case atStart=>exact .inl ⟨rfl,rfl⟩
  case round =>
   rcases hrel with ⟨rfl,hwr⟩ | ⟨rfl,q3,qc,q4,bb4,hL4⟩
   ·subst hwr
    have hF:=hform.out ab wr q3.out
    replace hF:=Hd hF
    have c15:=c14.out
    go_wp2_with fail
    refine hF.out.mono ?_
    rintro e w5 ⟨rfl,w6,i,v,b6,rfl,q5⟩
    have qc5:=(qc.out.below b6).far (show ab≠cb by omega) i v
    have q45:=(q4.out.below b6).far (show ab≠w.heap.size by omega) i v
    have bb5:=(Below.step bb4.out b6).setCell (p:=⟨ab,i,none⟩) (show w.heap.size≤ab by omega) v
    have hL5:∀ p∈L,w2.heap.size≤p.1.block∧(w6.setCell ⟨ab,i,none⟩ v).cell? p.1=some p.2:=fun p hp=>by
     have h1:=hL4.out p hp
     refine ⟨h1.1,?_⟩
     rw [World.cell?_setCell_other _ _ _ _ (fun e=>by have:=h1.1; rw [← e] at this; exact absurd this (by show ¬ w2.heap.size≤ab; omega))]
     exact (b6.cell (World.block_lt_of_cell? _ _ h1.2)).trans h1.2
    replace qc5:=Hd qc5
    replace q45:=Hd q45
    replace bb5:=Hd bb5
    replace hL5:=Hd hL5
    replace q5:=Hd q5
    clear b6 hF c15
    go_wp2
    refine ⟨.inr ⟨rfl,q5.out,qc5.out,q45.out,bb5.out,hL5.out⟩,by simp [intOf]⟩
   replace q3:=Hd q3
   replace qc:=Hd qc
   replace q4:=Hd q4
   replace bb4:=Hd bb4
   replace hL4:=Hd hL4
   go_upto_region 14 with fail
   obtain ⟨W,hW⟩:∃ W,wr.drew=W:=⟨_,rfl⟩
   have bd:Below wr.heap.size wr W:=by rw [← hW]; exact (Below.refl _ _).drew
   have bW:=Below.step bb4.out bd
   have qW:=q4.out.below bd
   have qV:=q3.out.below bd
   have qC:=qc.out.below bd
   have hLW:∀ p∈L,w2.heap.size≤p.1.block∧W.cell? p.1=some p.2:=fun p hp=>⟨(hL4.out p hp).1,(bd.cell (World.block_lt_of_cell? _ _ (hL4.out p hp).2)).trans (hL4.out p hp).2⟩
   have hS:W.cell? ⟨ab,0,none⟩=some (.string t)∧W.cell? ⟨ab,1,none⟩=some (.int .i64 n)∧W.cell? ⟨ab,2,none⟩=some (.slice none 0 0):=qV.1
   have qV2:=qV.st3_far (show w.heap.size≠ab by omega) (.string t) (.int .i64 n) (.slice none 0 0)
   have qC2:=qC.st3_far (show w.heap.size≠cb by omega) (.string t) (.int .i64 n) (.slice none 0 0)
   have qW2:=qW.st3 (.string t) (.int .i64 n) (.slice none 0 0)
   have bE:=below_set3 bW (Nat.le_refl _) (.string t) (.int .i64 n) (.slice none 0 0)
   have hLE:∀ p∈L,w.heap.size≤p.1.block∧(st3 W w.heap.size (.string t) (.int .i64 n) (.slice none 0 0)).cell? p.1=some p.2:=fun p hp=>⟨Nat.le_trans hB (hLW p hp).1,by unfold st3; rw [far_cell3 (by have:=(hLW p hp).1; have:=hs1; omega)]; exact (hLW p hp).2⟩
   unfold st3 at qV2 qW2 qC2 hLE
   obtain ⟨⟨z0,z1,z2⟩,f0,f1,f2⟩:=qW
   refine wp_region_plan (fun w'=>w'.cell? ⟨ab,0,none⟩=some (.string t)∧w'.cell? ⟨ab,1,none⟩=some (.int .i64 n)∧w'.cell? ⟨ab,2,none⟩=some (.slice none 0 0)) 3 [(0,true),(1,true),(2,false)] (by kernel_rfl) (by kernel_rfl) ?_
   rw [hW]
   replace qC2:=Hd qC2
   replace hLE:=Hd hLE
   replace bE:=Hd bE
   replace qW2:=Hd qW2
   clear hW bd bW qV qC hLW
   refine pqY 60 hS ?_
   refine pqY 2 hS ?_
   refine headC rfl (fun KK hK=>?_)
   go_simp
   refine hK _ _ qV2.1 ?_
   clear hK KK hS z0 z1 z2 f0 f1 f2 qV2
   refine head0 ?_
   simp only [List.drop_succ_cons,List.drop_zero]
   go_wp2
   refine NoPanic.normal ?_
   obtain ⟨⟨y0,y1,y2⟩,-,-,-⟩:=qW2.out
   go_wp2
   exact bodyPost_ret (v:=.tuple #[.pointer (some ⟨cb,0,none⟩),.agg #[.string t,.int .i64 n,.slice none 0 0],.bool true]) (by simp [results,Tryz.results11,go_sem,y0,y1,y2]) rfl ⟨_,_,_,rfl,bE.out,cb,_,_,_,_,_,L,rfl,rfl,rfl,by omega,qC2.out,hP.out,hLE.out⟩
end Go.Proofs.YtindfaehjoileaaGreatDoor
namespace Go.Proofs.YtindfaehjoileaaGreatDoor
open Go.RowKit Go.Shelf
set_option maxRecDepth 100000
def Tryz.laysTrimP_ren:Go.Shelf.Ren:=⟨fun | 101=>40 | 208=>134 | 206=>238 | n=>n,fun | 9=>9 | 4=>4 | 3=>3 | n=>n,fun | n=>n⟩
theorem Tryz.laysTrimP:Go.Proofs.Lays.n101 Tryz.prog Tryz.laysTrimP_ren:={
 mixed:=by kernel_rfl
 f101:=Tryz.func40.trans (congrArg some (by kernel_rfl))
 f206:=Tryz.func238.trans (congrArg some (by kernel_rfl))
 f208:=Tryz.func134.trans (congrArg some (by kernel_rfl))
 t3:=Tryz.underlying3
 a3:=Tryz.isAgg3
 z3:=Tryz.sizeOf3
 v3:=Tryz.zeroValue3
 t4:=Tryz.underlying4
 a4:=Tryz.isAgg4
 z4:=Tryz.sizeOf4
 v4:=Tryz.zeroValue4
 t9:=Tryz.underlying9
 a9:=Tryz.isAgg9
 z9:=Tryz.sizeOf9
 v9:=Tryz.zeroValue9 }
def Tryz.laysPu_ren:Go.Shelf.Ren:=⟨fun | 14=>41 | 16=>135 | 17=>136 | 19=>239 | 20=>240 | 21=>241 | 22=>242 | 23=>243 | 24=>244 | 25=>318 | 27=>43 | 26=>319 | 28=>138 | 29=>246 | 30=>320 | 31=>321 | 32=>322 | 33=>323 | 35=>356 | 34=>355 | 36=>357 | 37=>358 | 38=>359 | 39=>384 | 40=>385 | n=>n,fun | 9=>9 | 3=>3 | 22=>97 | 24=>25 | 25=>98 | 4=>4 | 34=>319 | 5=>5 | 36=>101 | 37=>34 | 0=>0 | 39=>322 | 21=>21 | 44=>377 | 47=>89 | 50=>419 | 48=>417 | 2=>2 | 52=>378 | 55=>381 | 59=>421 | 60=>203 | 20=>20 | 61=>422 | 65=>453 | 66=>454 | 67=>62 | n=>n,fun | 0=>14 | 1=>15 | 2=>19 | 3=>20 | 4=>21 | n=>n⟩
theorem Tryz.laysPu:Go.Proofs.LaysPu.n14 Tryz.prog Tryz.laysPu_ren:={
 mixed:=by kernel_rfl
 f14:=Tryz.func41.trans (congrArg some (by kernel_rfl))
 f16:=Tryz.func135.trans (congrArg some (by kernel_rfl))
 f17:=Tryz.func136.trans (congrArg some (by kernel_rfl))
 f19:=Tryz.func239.trans (congrArg some (by kernel_rfl))
 f20:=Tryz.func240.trans (congrArg some (by kernel_rfl))
 f21:=Tryz.func241.trans (congrArg some (by kernel_rfl))
 f22:=Tryz.func242.trans (congrArg some (by kernel_rfl))
 f23:=Tryz.func243.trans (congrArg some (by kernel_rfl))
 f24:=Tryz.func244.trans (congrArg some (by kernel_rfl))
 f25:=Tryz.func318.trans (congrArg some (by kernel_rfl))
 f26:=Tryz.func319.trans (congrArg some (by kernel_rfl))
 f27:=Tryz.func43.trans (congrArg some (by kernel_rfl))
 f28:=Tryz.func138.trans (congrArg some (by kernel_rfl))
 f29:=Tryz.func246.trans (congrArg some (by kernel_rfl))
 f30:=Tryz.func320.trans (congrArg some (by kernel_rfl))
 f31:=Tryz.func321.trans (congrArg some (by kernel_rfl))
 f32:=Tryz.func322.trans (congrArg some (by kernel_rfl))
 f33:=Tryz.func323.trans (congrArg some (by kernel_rfl))
 f34:=Tryz.func355.trans (congrArg some (by kernel_rfl))
 f35:=Tryz.func356.trans (congrArg some (by kernel_rfl))
 f36:=Tryz.func357.trans (congrArg some (by kernel_rfl))
 f37:=Tryz.func358.trans (congrArg some (by kernel_rfl))
 f38:=Tryz.func359.trans (congrArg some (by kernel_rfl))
 f39:=Tryz.func384.trans (congrArg some (by kernel_rfl))
 f40:=Tryz.func385.trans (congrArg some (by kernel_rfl))
 t0:=Tryz.underlying0
 a0:=Tryz.isAgg0
 z0:=Tryz.sizeOf0
 v0:=Tryz.zeroValue0
 i0:=by kernel_rfl
 t2:=Tryz.underlying2
 a2:=Tryz.isAgg2
 z2:=Tryz.sizeOf2
 v2:=Tryz.zeroValue2
 i2:=by kernel_rfl
 t3:=Tryz.underlying3
 a3:=Tryz.isAgg3
 z3:=Tryz.sizeOf3
 v3:=Tryz.zeroValue3
 i3:=by kernel_rfl
 t4:=Tryz.underlying4
 a4:=Tryz.isAgg4
 z4:=Tryz.sizeOf4
 v4:=Tryz.zeroValue4
 i4:=by kernel_rfl
 t5:=Tryz.underlying5
 a5:=Tryz.isAgg5
 z5:=Tryz.sizeOf5
 v5:=Tryz.zeroValue5
 i5:=by kernel_rfl
 t9:=Tryz.underlying9
 a9:=Tryz.isAgg9
 z9:=Tryz.sizeOf9
 v9:=Tryz.zeroValue9
 i9:=by kernel_rfl
 t20:=Tryz.underlying20
 a20:=Tryz.isAgg20
 z20:=Tryz.sizeOf20
 v20:=Tryz.zeroValue20
 i20:=by kernel_rfl
 t21:=Tryz.underlying21
 a21:=Tryz.isAgg21
 z21:=Tryz.sizeOf21
 v21:=Tryz.zeroValue21
 i21:=by kernel_rfl
 t22:=Tryz.underlying97
 a22:=Tryz.isAgg97
 z22:=Tryz.sizeOf97
 v22:=Tryz.zeroValue97
 i22:=by kernel_rfl
 t24:=Tryz.underlying25
 a24:=Tryz.isAgg25
 z24:=Tryz.sizeOf25
 v24:=Tryz.zeroValue25
 i24:=by kernel_rfl
 t25:=Tryz.underlying98
 a25:=Tryz.isAgg98
 z25:=Tryz.sizeOf98
 v25:=Tryz.zeroValue98
 i25:=by kernel_rfl
 t34:=Tryz.underlying319
 a34:=Tryz.isAgg319
 z34:=Tryz.sizeOf319
 v34:=Tryz.zeroValue319
 i34:=by kernel_rfl
 c34:=by kernel_rfl
 t36:=Tryz.underlying101
 a36:=Tryz.isAgg101
 z36:=Tryz.sizeOf101
 v36:=Tryz.zeroValue101
 i36:=by kernel_rfl
 t37:=Tryz.underlying34
 a37:=Tryz.isAgg34
 z37:=Tryz.sizeOf34
 v37:=Tryz.zeroValue34
 i37:=by kernel_rfl
 t39:=Tryz.underlying322
 a39:=Tryz.isAgg322
 z39:=Tryz.sizeOf322
 v39:=Tryz.zeroValue322
 i39:=by kernel_rfl
 t44:=Tryz.underlying377
 a44:=Tryz.isAgg377
 z44:=Tryz.sizeOf377
 v44:=Tryz.zeroValue377
 i44:=by kernel_rfl
 t47:=Tryz.underlying89
 a47:=Tryz.isAgg89
 z47:=Tryz.sizeOf89
 v47:=Tryz.zeroValue89
 i47:=by kernel_rfl
 t48:=Tryz.underlying417
 a48:=Tryz.isAgg417
 z48:=Tryz.sizeOf417
 v48:=Tryz.zeroValue417
 i48:=by kernel_rfl
 t50:=Tryz.underlying419
 a50:=Tryz.isAgg419
 z50:=Tryz.sizeOf419
 v50:=Tryz.zeroValue419
 i50:=by kernel_rfl
 t52:=Tryz.underlying378
 a52:=Tryz.isAgg378
 z52:=Tryz.sizeOf378
 v52:=Tryz.zeroValue378
 i52:=by kernel_rfl
 t55:=Tryz.underlying381
 a55:=Tryz.isAgg381
 z55:=Tryz.sizeOf381
 v55:=Tryz.zeroValue381
 i55:=by kernel_rfl
 t59:=Tryz.underlying421
 a59:=Tryz.isAgg421
 z59:=Tryz.sizeOf421
 v59:=Tryz.zeroValue421
 i59:=by kernel_rfl
 t60:=Tryz.underlying203
 a60:=Tryz.isAgg203
 z60:=Tryz.sizeOf203
 v60:=Tryz.zeroValue203
 i60:=by kernel_rfl
 t61:=Tryz.underlying422
 a61:=Tryz.isAgg422
 z61:=Tryz.sizeOf422
 t65:=Tryz.underlying453
 a65:=Tryz.isAgg453
 z65:=Tryz.sizeOf453
 v65:=Tryz.zeroValue453
 i65:=by kernel_rfl
 t66:=Tryz.underlying454
 a66:=Tryz.isAgg454
 z66:=Tryz.sizeOf454
 v66:=Tryz.zeroValue454
 i66:=by kernel_rfl
 t67:=Tryz.underlying62
 a67:=Tryz.isAgg62
 z67:=Tryz.sizeOf62
 v67:=Tryz.zeroValue62
 i67:=by kernel_rfl
 g0:=by kernel_rfl
 m0:=by kernel_rfl
 g1:=by kernel_rfl
 m1:=by kernel_rfl
 g2:=by kernel_rfl
 m2:=by kernel_rfl
 g3:=by kernel_rfl
 m3:=by kernel_rfl
 g4:=by kernel_rfl
 m4:=by kernel_rfl }
theorem trimP_any (s p:ByteArray) (w:World):Calls Tryz.prog 40 #[.string s,.string p] w (fun e w'=>e=.returned (.string ⟨(Lib.trimPrefix s.data.toList p.data.toList).toArray⟩)∧w'=w) :=
 Any.strings_TrimPrefix Tryz.laysTrimP s p w
theorem parse32_ok (s:ByteArray) (hmax:s.size≤9223372036854775806) (u:Nat) (h:Lib.parseUintB 32 s.data.toList=.ok u) (w:World) :
 Calls Tryz.prog 41 #[.string s,.int .i64 10,.int .i64 32] w (fun e w'=>e=.returned (.tuple #[.int .u64 u,.nilIface])∧Below w.heap.size w w'):=by
 refine (Any.strconv_ParseUint_10_at32_ok Tryz.laysPu s hmax u h w).mono ?_
 rintro e w' ⟨rfl,rfl | rfl⟩
 ·exact ⟨rfl,Below.refl _ _⟩
 ·exact ⟨rfl,Lib.bytesWorld_below _ _ _⟩
end Go.Proofs.YtindfaehjoileaaGreatDoor
namespace Go.Proofs.YtindfaehjoileaaGreatDoor
open Go.RowKit
set_option maxRecDepth 100000
set_option maxHeartbeats 8000000
theorem form_t (g:Nat) (s t0:ByteArray) (n0:Int) (bv:Value) (w:World) (q:Box3 w g (.string t0) (.int .i64 n0) bv) :
 Calls Tryz.prog 23 #[.pointer (some ⟨g,0,none⟩),.int .u8 116,.string s] w (fun e w'=>e=.returned (.bool true)∧w'=w.setCell ⟨g,0,none⟩ (.string s)):=by
 obtain ⟨⟨z0,z1,z2⟩,f0,f1,f2⟩:=id q
 go_enter Tryz.func23,Tryz.ntmps23
 go_wp2
 go_ret
 exact ⟨rfl,rfl⟩
theorem form_n (g:Nat) (t0:ByteArray) (n0:Int) (bv:Value) (w:World) (q:Box3 w g (.string t0) (.int .i64 n0) bv) :
 Calls Tryz.prog 23 #[.pointer (some ⟨g,0,none⟩),.int .u8 110,.string ⟨#[50,51,50]⟩] w (fun e w'=>e=.returned (.bool true)∧∃ w1,Below w.heap.size w w1∧w'=w1.setCell ⟨g,1,none⟩ (.int .i64 232)):=by
 have htr:Lib.trimPrefix [50,51,50] [45]=[50,51,50]:=by decide +kernel
 have hpu:=parse32_ok ⟨#[50,51,50]⟩ (by decide) 232 (by decide +kernel)
 replace hpu:=Hd hpu
 go_enter Tryz.func23,Tryz.ntmps23
 go_wp2_with fail
 refine (trimP_any _ _ _).mono ?_
 rintro e _ ⟨rfl,rfl⟩
 rw [htr]
 go_wp2_with fail
 refine (hpu.out _).mono ?_
 rintro e w1 ⟨rfl,b1⟩
 obtain ⟨⟨z0,z1,z2⟩,f0,f1,f2⟩:=q.below b1
 go_wp2_with fail
 go_ret
 exact ⟨rfl,w1,b1,rfl⟩
end Go.Proofs.YtindfaehjoileaaGreatDoor
namespace Go.Proofs.YtindfaehjoileaaGreatDoor
def natV:List Nat→Nat
 | []=>0
 | x::l=>x+4294967296*natV l
def Limbs (l:List Nat):Prop:=∀ x∈l,x<4294967296
theorem natV_append (a b:List Nat):natV (a++b)=natV a+4294967296 ^ a.length*natV b:=by
 induction a with
 | nil=>simp [natV]
 | cons x a ih =>
  rw [List.cons_append,natV,ih,natV,List.length_cons,Nat.pow_succ,Nat.mul_add,← Nat.mul_assoc,Nat.mul_comm 4294967296 (4294967296 ^ a.length),Nat.add_assoc]
theorem natV_snoc (a:List Nat) (x:Nat):natV (a++[x])=natV a+4294967296 ^ a.length*x:=by
 rw [natV_append]; simp [natV]
theorem natV_zeros (n:Nat):natV (List.replicate n 0)=0:=by
 induction n with
 | zero=>rfl
 | succ n ih=>rw [List.replicate_succ,natV,ih]
theorem natV_lt {l:List Nat} (h:Limbs l):natV l<4294967296 ^ l.length:=by
 induction l with
 | nil=>simp [natV]
 | cons x l ih =>
  have h1:=h x (by simp)
  have h2:=ih fun y hy=>h y (by simp [hy])
  rw [natV,List.length_cons,Nat.pow_succ]
  have h3:4294967296*(natV l+1)≤4294967296*4294967296 ^ l.length:=Nat.mul_le_mul_left _ h2
  rw [Nat.mul_add] at h3
  rw [Nat.mul_comm (4294967296 ^ l.length)]
  omega
theorem natV_set {l:List Nat} {k:Nat} (hk:k<l.length) (y:Nat):natV (l.set k y)+4294967296 ^ k*l[k]=natV l+4294967296 ^ k*y:=by
 induction l generalizing k with
 | nil=>simp at hk
 | cons x l ih =>
  cases k with
  | zero=>simp only [List.set_cons_zero,natV,Nat.pow_zero,Nat.one_mul,List.getElem_cons_zero]; omega
  | succ k =>
   have:=ih (k:=k) (by simpa using hk)
   simp only [List.set_cons_succ,natV,List.getElem_cons_succ,Nat.pow_succ]
   have e:∀ z,4294967296 ^ k*4294967296*z=4294967296*(4294967296 ^ k*z):=fun z=>by rw [Nat.mul_comm (4294967296 ^ k),Nat.mul_assoc]
   rw [e,e]
   omega
def Norm (l:List Nat):Prop:=∀ h:l≠[],l.getLast h≠0
theorem norm_unique {a b:List Nat} (ha:Limbs a) (hb:Limbs b) (na:Norm a) (nb:Norm b) (h:natV a=natV b):a=b:=by
 induction a generalizing b with
 | nil =>
  cases b with
  | nil=>rfl
  | cons y b =>
   exfalso
   have hz:∀ l:List Nat,natV l=0→∀ x∈l,x=0:=by
    intro l
    induction l with
    | nil=>intro _ x hx; cases hx
    | cons z l ih =>
     intro h x hx
     rw [natV] at h
     rcases List.mem_cons.1 hx with rfl | hx
     ·omega
     ·exact ih (by omega) x hx
   have:=hz _ h.symm _ (List.getLast_mem (l:=y::b) (by simp))
   exact nb (by simp) this
 | cons x a ih =>
  cases b with
  | nil =>
   exfalso
   have hz:∀ l:List Nat,natV l=0→∀ x∈l,x=0:=by
    intro l
    induction l with
    | nil=>intro _ x hx; cases hx
    | cons z l ih =>
     intro h x hx
     rw [natV] at h
     rcases List.mem_cons.1 hx with rfl | hx
     ·omega
     ·exact ih (by omega) x hx
   have:=hz _ h _ (List.getLast_mem (l:=x::a) (by simp))
   exact na (by simp) this
  | cons y b =>
   have hx:=ha x (by simp)
   have hy:=hb y (by simp)
   rw [natV,natV] at h
   have e1:x=y:=by omega
   subst e1
   have e2:natV a=natV b:=by omega
   rw [ih (fun z hz=>ha z (by simp [hz])) (fun z hz=>hb z (by simp [hz])) (fun hne=>by have:=na (by simp); rwa [List.getLast_cons hne] at this) (fun hne=>by have:=nb (by simp); rwa [List.getLast_cons hne] at this) e2]
theorem add_round {i x y c P Q:Nat} {o:List Nat} (ho:o.length=i) (h:natV o+4294967296 ^ i*c=P+Q) :
 natV (o++[(x+y+c)%4294967296])+4294967296 ^ (i+1)*((x+y+c)/4294967296)=(P+4294967296 ^ i*x)+(Q+4294967296 ^ i*y):=by
 rw [natV_snoc,ho,Nat.pow_succ,Nat.mul_assoc,Nat.add_assoc,← Nat.mul_add,Nat.mod_add_div,Nat.mul_add,Nat.mul_add]
 omega
theorem mul_round {i j x y c P:Nat} {o:List Nat} (hk:i+j<o.length) (h:natV o+4294967296 ^ (i+j)*c=P) :
 natV (o.set (i+j) ((x*y+o[i+j]+c)%4294967296))+4294967296 ^ (i+j+1)*((x*y+o[i+j]+c)/4294967296)=P+4294967296 ^ i*x*(4294967296 ^ j*y):=by
 have h1:=natV_set hk ((x*y+o[i+j]+c)%4294967296)
 generalize natV (o.set (i+j) ((x*y+o[i+j]+c)%4294967296))=V at *
 generalize o[i+j]=z at *
 have h2:4294967296 ^ (i+j)*((x*y+z+c)%4294967296)+4294967296 ^ (i+j+1)*((x*y+z+c)/4294967296)=4294967296 ^ (i+j)*(x*y+z+c):=by
  rw [Nat.pow_succ,Nat.mul_assoc,← Nat.mul_add,Nat.mod_add_div]
 have h3:4294967296 ^ i*x*(4294967296 ^ j*y)=4294967296 ^ (i+j)*(x*y):=by
  rw [Nat.pow_add,Nat.mul_mul_mul_comm]
 rw [Nat.mul_add,Nat.mul_add] at h2
 rw [h3]
 omega
theorem over_round {x d r:Nat}:((r*4294967296+x)/d)*d+(r*4294967296+x)%d=r*4294967296+x:=by
 rw [Nat.mul_comm]; exact Nat.div_add_mod _ _
theorem over_step {x d r q P:Nat} (h:q*d+r=P):((r*4294967296+x)/d+4294967296*q)*d+(r*4294967296+x)%d=x+4294967296*P:=by
 have h1:=over_round (x:=x) (d:=d) (r:=r)
 subst h
 rw [Nat.add_mul,Nat.mul_add,Nat.mul_assoc]
 generalize (r*4294967296+x)/d*d=z at *
 generalize (r*4294967296+x)%d=y at *
 generalize q*d=t
 omega
theorem over_limb {x d r:Nat} (hr:r<d) (hx:x<4294967296):(r*4294967296+x)/d<4294967296:=by
 rw [Nat.div_lt_iff_lt_mul (by omega)]
 have:(r+1)*4294967296≤d*4294967296:=Nat.mul_le_mul_right _ hr
 omega
open Go.RowKit
set_option maxRecDepth 100000
set_option maxHeartbeats 8000000
def limbs (l:List Nat):List Value:=l.map fun (n:Nat)=>Value.int .u32 (n:Int)
theorem limbs_len (l:List Nat):(limbs l).length=l.length:=by simp [limbs]
theorem limbs_take (l:List Nat) (m:Nat):limbs (l.take m)=(limbs l).take m:=by simp [limbs,List.map_take]
theorem limbs_set (l:List Nat) (i x:Nat):limbs (l.set i x)=(limbs l).set i (.int .u32 (x:Int)):=by simp [limbs,List.map_set]
theorem limbs_zeros (n:Nat):List.replicate n (Value.int .u32 0)=limbs (List.replicate n 0):=by simp [limbs]
theorem uNat:Tryz.prog.underlying 129=some (.slice 203):=by kernel_rfl
theorem oneNat:OneCell 129 203 (.int .u32 0) 4:=⟨by kernel_rfl,by kernel_rfl,rfl,by decide,fun _=>by kernel_rfl⟩
theorem eNat:Tryz.prog.elem 129=203:=by kernel_rfl
theorem uNatE:Tryz.prog.underlying 129=some (.slice (Tryz.prog.elem 129)):=by rw [eNat]; exact uNat
def cutAt (v:Value) (m:Nat):Value:=match v with | .slice a _ c=>.slice a m c | _=>v
theorem valAt_cut (v:Value) (m i:Nat):valAt (cutAt v m) i=valAt v i:=by
 cases v<;>try rfl
 rename_i a n c; cases a<;>rfl
def lenV (v:Value):Nat:=match v with | .slice _ n _=>n | _=>0
theorem lenV_cut {v:Value} (h:∃ a n c,v=.slice a n c) (m:Nat):lenV (cutAt v m)=m:=by
 obtain ⟨a,n,c,rfl⟩:=h; rfl
theorem ValsAt.cut {w:World} {v:Value} {vs:List Value} (h:ValsAt w v vs) {m:Nat} (hm:m≤vs.length):ValsAt w (cutAt v m) (vs.take m):=by
 obtain ⟨a,cap,rfl,h1,h2,h3,h4⟩:=h
 have hl:(vs.take m).length=m:=by simp; omega
 refine ⟨a,cap,by rw [hl]; rfl,by rw [hl]; omega,h2,h3,fun i hi=>?_⟩
 rw [hl] at hi
 rw [valAt_cut,h4 i (by omega)]; simp
theorem OwnV.cut {E:TypeId} {B:Nat} {w:World} {v:Value} {vs:List Value} (h:OwnV E B w v vs) {m:Nat} (hm:m≤vs.length):OwnV E B w (cutAt v m) (vs.take m):=by
 have hl:(vs.take m).length=m:=by simp; omega
 rcases h.2 with ⟨rfl,hn⟩ | ⟨g,cap,cur,rfl,hB,hg,hn,hmm,hs,ht⟩
 ·obtain rfl:m=0:=by omega
  exact OwnV.nil E B w
 ·refine ⟨by simp,.inr ⟨g,cap,cur,by rw [hl]; rfl,hB,hg,by rw [hl]; omega,hmm,hs,?_⟩⟩
  rw [hl]
  have:=congrArg (List.take m) ht
  rw [List.take_take] at this
  simp only [Nat.mul_one] at this ⊢
  rwa [Nat.min_eq_left (by omega)] at this
def LimbsAt (w:World) (v:Value) (l:List Nat):Prop:=ValsAt w v (limbs l)
def OwnN (B:Nat) (w:World) (v:Value) (l:List Nat):Prop:=OwnV 203 B w v (limbs l)
theorem OwnN.at {B:Nat} {w:World} {v:Value} {l:List Nat} (h:OwnN B w v l):LimbsAt w v l:=OwnV.at h
theorem LimbsAt.below {w w':World} {v:Value} {l:List Nat} (h:LimbsAt w v l) (hb:Below w.heap.size w w'):LimbsAt w' v l:=ValsAt.below h hb
theorem LimbsAt.shape {w:World} {v:Value} {l:List Nat} (h:LimbsAt w v l):∃ a n c,v=.slice a n c:=by
 obtain ⟨a,cap,e,_⟩:=h; exact ⟨_,_,_,e⟩
theorem LimbsAt.len {w:World} {v:Value} {l:List Nat} (h:LimbsAt w v l) (w':World) :
 (Builtin.len_ #[129] 3 #[v]).run Tryz.prog w'=.ok (.int .i64 l.length) w':=by
 have:=ValsAt.len oneNat h 3 w'
 rwa [limbs_len] at this
theorem LimbsAt.idx {w:World} {v:Value} {l:List Nat} (h:LimbsAt w v l) (i:Nat) (hi:i<l.length) (w':World) :
 (Instr.indexAt 129 v (.int .i64 i)).run Tryz.prog w'=.ok (.pointer (some (valAt v i))) w':=ValsAt.idx oneNat h i (by rw [limbs_len]; exact hi) w'
theorem LimbsAt.cell {w:World} {v:Value} {l:List Nat} (h:LimbsAt w v l) (i:Nat) (hi:i<l.length):w.cell? (valAt v i)=some (.int .u32 ((l.getD i 0:Nat):Int)):=by
 have:=ValsAt.cell h i (by rw [limbs_len]; exact hi)
 rw [this]; simp [limbs,List.getD,hi]
theorem LimbsAt.len_le {w:World} {v:Value} {l:List Nat} (h:LimbsAt w v l):l.length≤9223372036854775807:=by
 have:=ValsAt.len_le h
 rwa [limbs_len] at this
theorem LimbsAt.cut {w:World} {v:Value} {l:List Nat} (h:LimbsAt w v l) {m:Nat} (hm:m≤l.length):LimbsAt w (cutAt v m) (l.take m):=by
 have:=ValsAt.cut h (m:=m) (by rw [limbs_len]; exact hm)
 rwa [← limbs_take] at this
theorem OwnN.cut {B:Nat} {w:World} {v:Value} {l:List Nat} (h:OwnN B w v l) {m:Nat} (hm:m≤l.length):OwnN B w (cutAt v m) (l.take m):=by
 have:=OwnV.cut h (m:=m) (by rw [limbs_len]; exact hm)
 rwa [← limbs_take] at this
theorem OwnN.set {B:Nat} {w:World} {v:Value} {l:List Nat} (h:OwnN B w v l) (i:Nat) (hi:i<l.length) (x:Nat):OwnN B (w.setCell (valAt v i) (.int .u32 (x:Int))) v (l.set i x):=by
 have:=OwnV.set h i (by rw [limbs_len]; exact hi) (.int .u32 (x:Int))
 rwa [← limbs_set] at this
theorem OwnN.frz {B:Nat} {w:World} {v:Value} {l:List Nat} (h:OwnN B w v l) (i:Nat) (hi:i<l.length):w.frozen? (valAt v i)=false:=OwnV.frz h i (by rw [limbs_len]; exact hi)
theorem OwnN.blkB {B:Nat} {w:World} {v:Value} {l:List Nat} (h:OwnN B w v l) (i:Nat) (hi:i<l.length):B≤(valAt v i).block:=(OwnV.blkB h i (by rw [limbs_len]; exact hi)).2
theorem OwnN.setBelow {B:Nat} {w0 w:World} {v:Value} {l:List Nat} (h:OwnN B w v l) (hb:Below B w0 w) (i:Nat) (hi:i<l.length) (y:Value):Below B w0 (w.setCell (valAt v i) y):=hb.setCell (h.blkB i hi) y
theorem OwnN.mono {B B':Nat} {w:World} {v:Value} {l:List Nat} (h:OwnN B w v l) (hB:B'≤B):OwnN B' w v l:=OwnV.mono h hB
theorem OwnN.below {B:Nat} {w w':World} {v:Value} {l:List Nat} (h:OwnN B w v l) (hb:Below w.heap.size w w'):OwnN B w' v l:=OwnV.below h hb
theorem LimbsAt.front {w:World} {v:Value} {l:List Nat} (h:LimbsAt w v l) (m:Nat) (hm:m≤l.length) (w':World) :
 (Instr.slice 129 v none (some (.int .i64 m)) none).run Tryz.prog w'=.ok (cutAt v m) w':=by
 obtain ⟨a,cap,rfl,h1,h2,h3,h4⟩:=h
 rw [limbs_len] at h1 ⊢
 rw [run_slice_h w' 129 a l.length cap uNatE .i64 m (by omega) (by omega),eNat,oneNat.hs]
 show Result.ok (sliced a 0 m cap 1) w'=.ok (.slice a m cap) w'
 unfold sliced
 by_cases hc:cap=0
 ·subst hc; simp
 ·rw [if_neg hc]
  cases a with
  | none=>rfl
  | some p=>simp [Addr.add]
theorem run_makeNat (C:Int) (n:Nat) (w:World) (hC:C=n) (hn:n≤4398046511104) :
 ∃ v w',(Instr.makeSlice 129 (.int .i64 C) (.int .i64 C)).run Tryz.prog w=.ok v w'∧OwnN w.heap.size w' v (List.replicate n 0)∧Below w.heap.size w w':=by
 subst hC
 obtain ⟨i,hi,hz0,hz1,hz2⟩:=info_parts oneNat.hi
 obtain ⟨w',hrun,r1,r2⟩:=run_make_full (P:=Tryz.prog) w w.heap.size 129 203 i (.int .u32 0) 1 oneNat.ht hi hz0 hz1 .i64 .i64 n (by
  rw [hz2]
  calc 4*n≤4*4398046511104:=Nat.mul_le_mul_left _ hn
   _≤_:=by decide) (by unfold maxLen; omega) (Nat.le_refl _)
 refine ⟨_,w',hrun,?_,(Below.refl _ _).grown r2 (Nat.le_refl _) (by intro k hk; cases hk)⟩
 rw [oneNat.hz,toList_madeCells_one,limbs_zeros,Nat.mul_one] at r1
 unfold OwnN OwnV
 rw [limbs_len,List.length_replicate]
 exact r1
theorem take_norm {l:List Nat} {m:Nat} (hm:m+1≤l.length) (h0:l.getD m 0=0):natV (l.take m)=natV (l.take (m+1)):=by
 rw [show l.take (m+1)=l.take m++[l.getD m 0] by
  rw [List.take_add_one]; simp [List.getD,show m<l.length by omega],natV_snoc,h0]
 simp
theorem norm_take {l:List Nat} {m:Nat} (hm:m+1≤l.length) (h0:l.getD m 0≠0):Norm (l.take (m+1)):=by
 intro hne
 rw [List.getLast_eq_getElem]
 have hl:(l.take (m+1)).length=m+1:=by simp; omega
 have e:(l.take (m+1))[(l.take (m+1)).length-1]'(by omega)=l.getD m 0:=by
  simp [List.getD,show m<l.length by omega,show min (m+1) l.length-1=m by omega]
 rwa [e]
theorem norm_any (v:Value) (l:List Nat) (w:World) (h:LimbsAt w v l) :
 Calls Tryz.prog 150 #[v] w fun e w'=>∃ m,m≤l.length∧e=.returned (cutAt v m)∧Norm (l.take m)∧natV (l.take m)=natV l∧w=w':=by
 have hml:=h.len_le
 have hv:v=cutAt v l.length:=by
  obtain ⟨a,cap,rfl,_⟩:=h
  rw [limbs_len]; rfl
 have hnat:natV (l.take l.length)=natV l:=by rw [List.take_length]
 replace h:=Hd h
 replace hv:=Hd hv
 replace hnat:=Hd hnat
 go_enter Tryz.func150,Tryz.ntmps150
 go_wp2
 go_loopw [0] (fun av wr=>∃ (m:Nat) (u:Value),u=av∧m≤l.length∧u=cutAt v m∧natV (l.take m)=natV l∧wr=w) (fun av _=>lenV av)
 case atStart=>exact ⟨l.length,v,rfl,Nat.le_refl _,hv.out,hnat.out,rfl⟩
 case round =>
  obtain ⟨m,u,rfl,hm,rfl,hval,rfl⟩:=hrel
  have hu:=h.out.cut hm
  have hul:=hu.len
  rw [List.length_take,Nat.min_eq_left hm] at hul
  obtain ⟨ua,un,uc,hus⟩:=hu.shape
  have hun:un=m:=by
   have:=hu
   obtain ⟨a,cap,e,_⟩:=this
   rw [hus] at e; injection e with _ e _; rw [e,limbs_len,List.length_take,Nat.min_eq_left hm]
  subst hun
  by_cases hz:un=0
  ·subst hz
   go_wp2
   go_ret
   exact ⟨0,Nat.zero_le _,rfl,fun hne=>absurd (by simp) hne,hval,rfl⟩
  ·obtain ⟨m,rfl⟩:∃ m,un=m+1:=⟨un-1,by omega⟩
   have hcm:((m+1:Nat):Int)-1=(m:Int):=by omega
   have iX:=hu.idx m (by rw [List.length_take]; omega)
   have cX:=hu.cell m (by rw [List.length_take]; omega)
   have hgd:(l.take (m+1)).getD m 0=l.getD m 0:=by
    simp [List.getD]
   rw [hgd] at cX
   have fr:=fun w'=>hu.front m (by rw [List.length_take]; omega) w'
   have hcc:cutAt (cutAt v (m+1)) m=cutAt v m:=by cases v<;>rfl
   rw [hcc] at fr
   obtain ⟨x,hx⟩:∃ x,l.getD m 0=x:=⟨_,rfl⟩
   rw [hx] at cX
   have hx':=Hd hx
   obtain ⟨p,hp⟩:∃ p,valAt (cutAt v (m+1)) m=p:=⟨_,rfl⟩
   rw [hp] at iX cX
   obtain ⟨q,hq⟩:∃ q,cutAt v (m+1)=q:=⟨_,rfl⟩
   rw [hq] at iX fr hul hu ⊢
   have hq':=Hd hq
   have hp':=Hd hp
   clear hx hp hq hus hgd
   by_cases h0:x=0
   ·subst h0
    go_wp2
    go_roundw
    case rel=>exact ⟨m,_,rfl,by omega,rfl,by rw [take_norm hm hx'.out]; exact hval,by first | rfl | trivial⟩
    case measure=>rw [lenV_cut h.out.shape,← hq'.out,lenV_cut h.out.shape]; omega
   ·have hne:((x:Int)==0)=false:=by rw [beq_eq_false_iff_ne]; omega
    go_wp2
    go_ret
    exact ⟨m+1,hm,by show Ending.returned q=_; rw [hq'.out],norm_take hm (by rw [hx'.out]; exact h0),hval,rfl⟩
def NumIs (B:Nat) (w:World) (v:Value) (n:Nat):Prop:=∃ l,OwnN B w v l∧Limbs l∧Norm l∧natV l=n
theorem NumIs.below {B:Nat} {w w':World} {v:Value} {n:Nat} (h:NumIs B w v n) (hb:Below w.heap.size w w'):NumIs B w' v n:=by
 obtain ⟨l,h1,h2⟩:=h; exact ⟨l,h1.below hb,h2⟩
theorem NumIs.mono {B B':Nat} {w:World} {v:Value} {n:Nat} (h:NumIs B w v n) (hB:B'≤B):NumIs B' w v n:=by
 obtain ⟨l,h1,h2⟩:=h; exact ⟨l,h1.mono hB,h2⟩
theorem OwnN.lit2 (w:World) (x y:Nat):OwnN w.heap.size (w.alloc (.cells #[.int .u32 (x:Int),.int .u32 (y:Int)] 203)) (.slice (some ⟨w.heap.size,0,none⟩) 2 2) [x,y] :=
 World.ownsRow_lit (base:=w.heap.size) (e:=203) (size:=1) w #[.int .u32 (x:Int),.int .u32 (y:Int)] 2 (Nat.le_refl _) (by decide) rfl
theorem limbs_take_mem {l:List Nat} (h:Limbs l) (m:Nat):Limbs (l.take m):=fun x hx=>h x (List.mem_of_mem_take hx)
theorem norm_own (B:Nat) (v:Value) (l:List Nat) (n:Nat) (w:World) (h:OwnN B w v l) (hl:Limbs l) (hn:natV l=n) :
 Calls Tryz.prog 150 #[v] w fun e w'=>(∃ x,e=.returned x∧NumIs B w x n)∧w=w':=by
 refine (norm_any v l w h.at).mono ?_
 rintro e w' ⟨m,hm,rfl,h1,h2,rfl⟩
 exact ⟨⟨_,rfl,_,h.cut hm,limbs_take_mem hl m,h1,by rw [h2,hn]⟩,rfl⟩
theorem nat_from (x:Nat) (w:World) (hx:x<18446744073709551616) :
 Calls Tryz.prog 55 #[.int .u64 (x:Int)] w (Ret1 (fun v w'=>NumIs w.heap.size w' v x) w):=by
 have e1:(x:Int)%4294967296=((x%4294967296:Nat):Int):=by omega
 have e2:(x:Int)/4294967296=((x/4294967296:Nat):Int):=by omega
 have b0:=(Below.refl w.heap.size w).alloc (Nat.le_refl _) (.cells #[.int .u32 ((x%4294967296:Nat):Int),.int .u32 ((x/4294967296:Nat):Int)] 203)
 have ho:=OwnN.lit2 w (x%4294967296) (x/4294967296)
 replace e1:=Hd e1
 replace e2:=Hd e2
 go_enter Tryz.func55,Tryz.ntmps55
 go_wp2_with fail
 rw [e1.out,e2.out]
 refine (norm_own w.heap.size _ _ x _ ho ?_ ?_).mono ?_
 ·intro z hz
  simp at hz
  rcases hz with rfl | rfl<;>omega
 ·simp [natV]; omega
 ·rintro e w' ⟨⟨v,rfl,hv⟩,rfl⟩
  replace hv:=Hd hv
  go_wp2
  go_ret
  exact ⟨_,rfl,b0,hv.out⟩
theorem add32_any (x y c:Nat) (w:World) (hx:x<4294967296) (hy:y<4294967296) (hc:c≤1) :
 Calls Tryz.prog 305 #[.int .u32 (x:Int),.int .u32 (y:Int),.int .u32 (c:Int)] w fun e w'=>e=.returned (.tuple #[.int .u32 (((x+y+c)%4294967296:Nat):Int),.int .u32 (((x+y+c)/4294967296:Nat):Int)])∧w=w':=by
 have e1:((x:Int)+(y:Int)+(c:Int))%4294967296=(((x+y+c)%4294967296:Nat):Int):=by omega
 have e2:((x:Int)+(y:Int)+(c:Int))/4294967296=(((x+y+c)/4294967296:Nat):Int):=by omega
 replace e1:=Hd e1
 replace e2:=Hd e2
 go_enter Tryz.func305,Tryz.ntmps305
 go_wp2
 rw [e1.out,e2.out]
 go_ret2
 exact ⟨rfl,rfl⟩
theorem or_hi (x y:Nat) (hx:x<4294967296) (hy:y<4294967296):bits .or .u64 ((x:Int)*4294967296) (y:Int)=((x*4294967296+y:Nat):Int):=by
 have:=bits_or_u64_nat (x*4294967296) y (by omega) (by omega)
 rw [show ((x:Int)*4294967296)=((x*4294967296:Nat):Int) by simp,this]
 have h:=Nat.two_pow_add_eq_or_of_lt (i:=32) (b:=y) (by omega) x
 rw [show (4294967296:Nat)=2 ^ 32 by decide,Nat.mul_comm x,h]
theorem div32_any (x y d:Nat) (w:World) (hx:x<d) (hy:y<4294967296) (hd:d<4294967296) :
 Calls Tryz.prog 253 #[.int .u32 (x:Int),.int .u32 (y:Int),.int .u32 (d:Int)] w fun e w'=>e=.returned (.tuple #[.int .u32 (((x*4294967296+y)/d:Nat):Int),.int .u32 (((x*4294967296+y)%d:Nat):Int)])∧∃ n,w'=w.drewN n:=by
 have d1:((d:Int) != 0)=true:=by rw [bne_iff_ne]; omega
 have d0:((d:Int)==0)=false:=by rw [beq_eq_false_iff_ne]; omega
 have d2:decide (d≤x)=false:=decide_eq_false (by omega)
 have hor:=or_hi x y (by omega) hy
 have hdz:¬ d=0:=by omega
 obtain ⟨z,hz⟩:∃ z,x*4294967296+y=z:=⟨_,rfl⟩
 rw [hz] at hor ⊢
 have hzl:z<18446744073709551616:=by omega
 have hzq:z/d<4294967296:=by rw [← hz]; exact over_limb hx hy
 have hzr:z%d<d:=Nat.mod_lt _ (by omega)
 obtain ⟨q,hq⟩:∃ q,z/d=q:=⟨_,rfl⟩
 obtain ⟨s,hs⟩:∃ s,z%d=s:=⟨_,rfl⟩
 have f1:(z:Int).tdiv (d:Int)=(q:Int):=by rw [Int.tdiv_eq_ediv_of_nonneg (by omega),← Int.natCast_ediv,hq]
 have f2:(z:Int)/(d:Int)=(q:Int):=by rw [← Int.natCast_ediv,hq]
 have f3:(z:Int).tmod (d:Int)=(s:Int):=by rw [Int.tmod_eq_emod_of_nonneg (by omega),← Int.natCast_emod,hs]
 have f4:(z:Int)%(d:Int)=(s:Int):=by rw [← Int.natCast_emod,hs]
 rw [hq] at hzq ⊢
 rw [hs] at hzr ⊢
 replace hz:=Hd hz
 replace hq:=Hd hq
 replace hs:=Hd hs
 go_enter Tryz.func253,Tryz.ntmps253
 go_upto_region 4 with fail
 go_quiet (fail)
 go_wp2
 go_ret2
 exact ⟨rfl,_,rfl⟩
theorem natV_take_succ (l:List Nat) (i:Nat):natV (l.take (i+1))=natV (l.take i)+4294967296 ^ i*l.getD i 0:=by
 by_cases h:i<l.length
 ·rw [show l.take (i+1)=l.take i++[l.getD i 0] by rw [List.take_add_one]; simp [List.getD,h],natV_snoc,List.length_take,Nat.min_eq_left (by omega)]
 ·rw [List.take_of_length_le (by omega),List.take_of_length_le (by omega),show l.getD i 0=0 by simp [List.getD,show l.length≤i by omega]]; simp
theorem natV_take_all {l:List Nat} {i:Nat} (h:l.length≤i):natV (l.take i)=natV l:=by rw [List.take_of_length_le h]
theorem set_zeros {o:List Nat} {i k:Nat} (ho:o.length=i) (x:Nat):(o++List.replicate (k+1) 0).set i x=(o++[x])++List.replicate k 0:=by
 rw [List.set_append_right _ _ (by omega),ho,Nat.sub_self,List.replicate_succ,List.set_cons_zero,List.append_assoc]; rfl
theorem limbs_snoc {o:List Nat} {x:Nat} (h:Limbs o) (hx:x<4294967296):Limbs (o++[x]):=fun y hy=>by
 rcases List.mem_append.1 hy with hy | hy
 ·exact h y hy
 ·simp at hy; subst hy; exact hx
theorem limb_getD {l:List Nat} (h:Limbs l) (i:Nat):l.getD i 0<4294967296:=by
 by_cases hi:i<l.length
 ·rw [show l.getD i 0=l[i] by simp [List.getD,hi]]; exact h _ (List.getElem_mem hi)
 ·rw [show l.getD i 0=0 by simp [List.getD,show l.length≤i by omega]]; decide
theorem belowN {B:Nat} {w w':World} (h:Below B w w') (n:Nat):Below B w (w'.drewN n):=by
 obtain ⟨h1,h2,h3,h4,h5⟩:=h
 exact ⟨h1,h2,h3,h4,h5⟩
theorem add_ge (v u:Value) (l m:List Nat) (w:World) (h:LimbsAt w v l) (k:LimbsAt w u m) (hl:Limbs l) (hm:Limbs m) (hll:l.length≤1000000) (hlt:m.length≤l.length) :
 Calls Tryz.prog 216 #[v,u] w (Ret1 (fun x w'=>NumIs w.heap.size w' x (natV l+natV m)) w):=by
 have l1:=h.len
 have l2:=k.len
 obtain ⟨n,hn⟩:∃ n,l.length=n:=⟨_,rfl⟩
 obtain ⟨q,hq⟩:∃ q,m.length=q:=⟨_,rfl⟩
 have hqn:q≤n:=by omega
 have hnb:n≤1000000:=by omega
 have d0:decide (n<q)=false:=decide_eq_false (by omega)
 rw [hn] at l1
 rw [hq] at l2
 obtain ⟨ov,w1,mk,ho,b1⟩:=run_makeNat ((n:Int)+1) (n+1) w (by omega) (by omega)
 replace h:=Hd h
 replace k:=Hd k
 replace hl:=Hd hl
 replace hm:=Hd hm
 replace ho:=Hd ho
 replace hn:=Hd hn
 replace hq:=Hd hq
 go_enter Tryz.func216,Tryz.ntmps216
 go_wp2_with fail
 go_loopw [6,23] (fun cv iv wr=>∃ (i c:Nat) (o:List Nat),i≤n∧iv=.int .i64 i∧cv=.int .u32 (c:Int)∧c≤1∧o.length=i∧Limbs o∧OwnN w.heap.size wr ov (o++List.replicate (n+1-i) 0)∧Below w.heap.size w wr∧natV o+4294967296 ^ i*c=natV (l.take i)+natV (m.take i)) (fun _ iv _=>n-(intOf iv).toNat)
 case atStart=>exact ⟨0,0,[],Nat.zero_le _,rfl,rfl,by omega,rfl,(fun x hx=>by cases hx),ho.out,b1,by simp [natV]⟩
 case round =>
  clear mk
  obtain ⟨i,c,o,hi,rfl,rfl,hc,hol,hlo,hO,hB,hv⟩:=hrel
  obtain ⟨wo,rfl⟩:∃ wo:World,wo=wr:=⟨_,rfl⟩
  by_cases hin:i<n
  ·have di:decide ((i:Int)<(n:Int))=true:=decide_eq_true (by omega)
   have hA:=h.out.below (hB)
   have hB':=k.out.below (hB)
   have iA:=fun w'=>hA.idx i (by rw [hn.out]; exact hin) w'
   have cA:=hA.cell i (by rw [hn.out]; exact hin)
   have xl:=limb_getD hl.out i
   have yl:=limb_getD hm.out i
   have hvA:=natV_take_succ l i
   have hvB:=natV_take_succ m i
   have hk1:n+1-i=(n-i)+1:=by omega
   have hol2:(o++List.replicate (n+1-i) 0).length=n+1:=by rw [List.length_append,List.length_replicate]; omega
   have iO:=fun w'=>hO.at.idx i (by rw [hol2]; omega) w'
   have fO:=hO.frz i (by rw [hol2]; omega)
   obtain ⟨z0,cO⟩:∃ z,wo.cell? (valAt ov i)=some z:=⟨_,hO.at.cell i (by rw [hol2]; omega)⟩
   obtain ⟨x,hx⟩:∃ x,l.getD i 0=x:=⟨_,rfl⟩
   obtain ⟨y,hy⟩:∃ y,m.getD i 0=y:=⟨_,rfl⟩
   rw [hx] at cA xl hvA
   rw [hy] at yl hvB
   have hset:=hO.set i (by rw [hol2]; omega) ((x+y+c)%4294967296)
   have hsb:=hO.setBelow hB i (by rw [hol2]; omega) (.int .u32 (((x+y+c)%4294967296:Nat):Int))
   rw [hk1,set_zeros hol] at hset
   have hrnd:=add_round (x:=x) (y:=y) hol hv
   rw [← hvA,← hvB] at hrnd
   have hz:(x+y+c)/4294967296≤1:=by omega
   have hzl:(x+y+c)%4294967296<4294967296:=Nat.mod_lt _ (by decide)
   have hadd:=add32_any x y c wo xl yl hc
   obtain ⟨pa,hpa⟩:∃ p,valAt v i=p:=⟨_,rfl⟩
   obtain ⟨po,hpo⟩:∃ p,valAt ov i=p:=⟨_,rfl⟩
   rw [hpa] at iA cA
   rw [hpo] at iO cO fO hset hsb
   obtain ⟨s,hs⟩:∃ s,(x+y+c)%4294967296=s:=⟨_,rfl⟩
   obtain ⟨c2,hc2⟩:∃ s,(x+y+c)/4294967296=s:=⟨_,rfl⟩
   rw [hs] at hset hsb hrnd hzl hadd
   rw [hc2] at hrnd hz hadd
   have hlo2:=limbs_snoc hlo hzl
   replace hset:=Hd hset
   replace hsb:=Hd hsb
   replace hrnd:=Hd hrnd
   replace hv:=Hd hv
   replace hvA:=Hd hvA
   replace hvB:=Hd hvB
   replace hO:=Hd hO
   replace hlo:=Hd hlo
   replace hlo2:=Hd hlo2
   replace hol:=Hd hol
   replace hol2:=Hd hol2
   replace hx:=Hd hx
   replace hy2:=Hd hy
   replace hs:=Hd hs
   replace hc2:=Hd hc2
   replace hpa:=Hd hpa
   replace hpo:=Hd hpo
   replace hk1:=Hd hk1
   replace hadd:=Hd hadd
   by_cases hiq:i<q
   ·have dq:decide ((i:Int)<(q:Int))=true:=decide_eq_true (by omega)
    have iB:=fun w'=>hB'.idx i (by rw [hq.out]; exact hiq) w'
    have cB:=hB'.cell i (by rw [hq.out]; exact hiq)
    rw [hy] at cB
    obtain ⟨pb,hpb⟩:∃ p,valAt u i=p:=⟨_,rfl⟩
    rw [hpb] at iB cB
    replace hpb:=Hd hpb
    clear hy
    replace hA:=Hd hA
    replace hB':=Hd hB'
    go_wp2_with fail
    refine hadd.out.mono ?_
    rintro e w' ⟨rfl,rfl⟩
    go_wp2
    go_roundw
    case measure=>simp [intOf]; omega
    case rel=>exact ⟨i+1,c2,_,by omega,by go_num,rfl,hz,by rw [List.length_append,hol.out,List.length_singleton],hlo2.out,by rw [show n+1-(i+1)=n-i by omega]; exact hset.out,hsb.out,hrnd.out⟩
   ·have dq:decide ((i:Int)<(q:Int))=false:=decide_eq_false (by omega)
    have hy0:y=0:=by rw [← hy]; simp [List.getD,show m.length≤i by rw [hq.out]; omega]
    subst hy0
    clear hy
    replace hA:=Hd hA
    replace hB':=Hd hB'
    go_wp2_with fail
    refine hadd.out.mono ?_
    rintro e w' ⟨rfl,rfl⟩
    go_wp2
    go_roundw
    case measure=>simp [intOf]; omega
    case rel=>exact ⟨i+1,c2,_,by omega,by go_num,rfl,hz,by rw [List.length_append,hol.out,List.length_singleton],hlo2.out,by rw [show n+1-(i+1)=n-i by omega]; exact hset.out,hsb.out,hrnd.out⟩
  ·obtain rfl:i=n:=by omega
   have di:decide ((i:Int)<(i:Int))=false:=decide_eq_false (by omega)
   have hol2:(o++List.replicate (i+1-i) 0).length=i+1:=by rw [List.length_append,List.length_replicate]; omega
   have iO:=fun w'=>hO.at.idx i (by rw [hol2]; omega) w'
   have fO:=hO.frz i (by rw [hol2]; omega)
   obtain ⟨z0,cO⟩:∃ z,wo.cell? (valAt ov i)=some z:=⟨_,hO.at.cell i (by rw [hol2]; omega)⟩
   have hset:=hO.set i (by rw [hol2]; omega) c
   have hsb:=hO.setBelow hB i (by rw [hol2]; omega) (.int .u32 (c:Int))
   rw [show i+1-i=0+1 by omega,set_zeros hol,List.replicate_zero,List.append_nil] at hset
   rw [natV_take_all (by rw [hn.out]; exact Nat.le_refl _),natV_take_all (by rw [hq.out]; exact hqn)] at hv
   have hval:natV (o++[c])=natV l+natV m:=(by rw [natV_snoc,hol]; exact hv)
   have hlim:=limbs_snoc hlo (show c<4294967296 by omega)
   obtain ⟨po,hpo⟩:∃ p,valAt ov i=p:=⟨_,rfl⟩
   rw [hpo] at iO cO fO hset hsb
   replace hset:=Hd hset
   replace hsb:=Hd hsb
   replace hv:=Hd hv
   replace hO:=Hd hO
   replace hlo:=Hd hlo
   replace hol:=Hd hol
   replace hol2:=Hd hol2
   replace hpo:=Hd hpo
   replace hval:=Hd hval
   replace hlim:=Hd hlim
   go_wp2_with fail
   refine (norm_own w.heap.size _ _ _ _ hset.out hlim.out hval.out).mono ?_
   rintro e w' ⟨⟨x,rfl,hx⟩,rfl⟩
   replace hx:=Hd hx
   go_wp2
   go_ret
   exact ⟨_,rfl,hsb.out,hx.out⟩
theorem add_lt (v u:Value) (l m:List Nat) (w:World) (h:LimbsAt w v l) (k:LimbsAt w u m) (hl:Limbs l) (hm:Limbs m) (hml:m.length≤1000000) (hlt:l.length<m.length) :
 Calls Tryz.prog 216 #[v,u] w (Ret1 (fun x w'=>NumIs w.heap.size w' x (natV l+natV m)) w):=by
 have l1:=h.len
 have l2:=k.len
 obtain ⟨n,hn⟩:∃ n,m.length=n:=⟨_,rfl⟩
 obtain ⟨q,hq⟩:∃ q,l.length=q:=⟨_,rfl⟩
 have hqn:q≤n:=by omega
 have hnb:n≤1000000:=by omega
 have d0:decide (q<n)=true:=decide_eq_true (by omega)
 rw [hq] at l1
 rw [hn] at l2
 obtain ⟨ov,w1,mk,ho,b1⟩:=run_makeNat ((n:Int)+1) (n+1) w (by omega) (by omega)
 replace h:=Hd h
 replace k:=Hd k
 replace hl:=Hd hl
 replace hm:=Hd hm
 replace ho:=Hd ho
 replace hn:=Hd hn
 replace hq:=Hd hq
 go_enter Tryz.func216,Tryz.ntmps216
 go_wp2_with fail
 go_loopw [6,23] (fun cv iv wr=>∃ (i c:Nat) (o:List Nat),i≤n∧iv=.int .i64 i∧cv=.int .u32 (c:Int)∧c≤1∧o.length=i∧Limbs o∧OwnN w.heap.size wr ov (o++List.replicate (n+1-i) 0)∧Below w.heap.size w wr∧natV o+4294967296 ^ i*c=natV (m.take i)+natV (l.take i)) (fun _ iv _=>n-(intOf iv).toNat)
 case atStart=>exact ⟨0,0,[],Nat.zero_le _,rfl,rfl,by omega,rfl,(fun x hx=>by cases hx),ho.out,b1,by simp [natV]⟩
 case round =>
  clear mk
  obtain ⟨i,c,o,hi,rfl,rfl,hc,hol,hlo,hO,hB,hv⟩:=hrel
  obtain ⟨wo,rfl⟩:∃ wo:World,wo=wr:=⟨_,rfl⟩
  by_cases hin:i<n
  ·have di:decide ((i:Int)<(n:Int))=true:=decide_eq_true (by omega)
   have hA:=k.out.below (hB)
   have hB':=h.out.below (hB)
   have iA:=fun w'=>hA.idx i (by rw [hn.out]; exact hin) w'
   have cA:=hA.cell i (by rw [hn.out]; exact hin)
   have xl:=limb_getD hm.out i
   have yl:=limb_getD hl.out i
   have hvA:=natV_take_succ m i
   have hvB:=natV_take_succ l i
   have hk1:n+1-i=(n-i)+1:=by omega
   have hol2:(o++List.replicate (n+1-i) 0).length=n+1:=by rw [List.length_append,List.length_replicate]; omega
   have iO:=fun w'=>hO.at.idx i (by rw [hol2]; omega) w'
   have fO:=hO.frz i (by rw [hol2]; omega)
   obtain ⟨z0,cO⟩:∃ z,wo.cell? (valAt ov i)=some z:=⟨_,hO.at.cell i (by rw [hol2]; omega)⟩
   obtain ⟨x,hx⟩:∃ x,m.getD i 0=x:=⟨_,rfl⟩
   obtain ⟨y,hy⟩:∃ y,l.getD i 0=y:=⟨_,rfl⟩
   rw [hx] at cA xl hvA
   rw [hy] at yl hvB
   have hset:=hO.set i (by rw [hol2]; omega) ((x+y+c)%4294967296)
   have hsb:=hO.setBelow hB i (by rw [hol2]; omega) (.int .u32 (((x+y+c)%4294967296:Nat):Int))
   rw [hk1,set_zeros hol] at hset
   have hrnd:=add_round (x:=x) (y:=y) hol hv
   rw [← hvA,← hvB] at hrnd
   have hz:(x+y+c)/4294967296≤1:=by omega
   have hzl:(x+y+c)%4294967296<4294967296:=Nat.mod_lt _ (by decide)
   have hadd:=add32_any x y c wo xl yl hc
   obtain ⟨pa,hpa⟩:∃ p,valAt u i=p:=⟨_,rfl⟩
   obtain ⟨po,hpo⟩:∃ p,valAt ov i=p:=⟨_,rfl⟩
   rw [hpa] at iA cA
   rw [hpo] at iO cO fO hset hsb
   obtain ⟨s,hs⟩:∃ s,(x+y+c)%4294967296=s:=⟨_,rfl⟩
   obtain ⟨c2,hc2⟩:∃ s,(x+y+c)/4294967296=s:=⟨_,rfl⟩
   rw [hs] at hset hsb hrnd hzl hadd
   rw [hc2] at hrnd hz hadd
   have hlo2:=limbs_snoc hlo hzl
   replace hset:=Hd hset
   replace hsb:=Hd hsb
   replace hrnd:=Hd hrnd
   replace hv:=Hd hv
   replace hvA:=Hd hvA
   replace hvB:=Hd hvB
   replace hO:=Hd hO
   replace hlo:=Hd hlo
   replace hlo2:=Hd hlo2
   replace hol:=Hd hol
   replace hol2:=Hd hol2
   replace hx:=Hd hx
   replace hy2:=Hd hy
   replace hs:=Hd hs
   replace hc2:=Hd hc2
   replace hpa:=Hd hpa
   replace hpo:=Hd hpo
   replace hk1:=Hd hk1
   replace hadd:=Hd hadd
   by_cases hiq:i<q
   ·have dq:decide ((i:Int)<(q:Int))=true:=decide_eq_true (by omega)
    have iB:=fun w'=>hB'.idx i (by rw [hq.out]; exact hiq) w'
    have cB:=hB'.cell i (by rw [hq.out]; exact hiq)
    rw [hy] at cB
    obtain ⟨pb,hpb⟩:∃ p,valAt v i=p:=⟨_,rfl⟩
    rw [hpb] at iB cB
    replace hpb:=Hd hpb
    clear hy
    replace hA:=Hd hA
    replace hB':=Hd hB'
    go_wp2_with fail
    refine hadd.out.mono ?_
    rintro e w' ⟨rfl,rfl⟩
    go_wp2
    go_roundw
    case measure=>simp [intOf]; omega
    case rel=>exact ⟨i+1,c2,_,by omega,by go_num,rfl,hz,by rw [List.length_append,hol.out,List.length_singleton],hlo2.out,by rw [show n+1-(i+1)=n-i by omega]; exact hset.out,hsb.out,hrnd.out⟩
   ·have dq:decide ((i:Int)<(q:Int))=false:=decide_eq_false (by omega)
    have hy0:y=0:=by rw [← hy]; simp [List.getD,show l.length≤i by rw [hq.out]; omega]
    subst hy0
    clear hy
    replace hA:=Hd hA
    replace hB':=Hd hB'
    go_wp2_with fail
    refine hadd.out.mono ?_
    rintro e w' ⟨rfl,rfl⟩
    go_wp2
    go_roundw
    case measure=>simp [intOf]; omega
    case rel=>exact ⟨i+1,c2,_,by omega,by go_num,rfl,hz,by rw [List.length_append,hol.out,List.length_singleton],hlo2.out,by rw [show n+1-(i+1)=n-i by omega]; exact hset.out,hsb.out,hrnd.out⟩
  ·obtain rfl:i=n:=by omega
   have di:decide ((i:Int)<(i:Int))=false:=decide_eq_false (by omega)
   have hol2:(o++List.replicate (i+1-i) 0).length=i+1:=by rw [List.length_append,List.length_replicate]; omega
   have iO:=fun w'=>hO.at.idx i (by rw [hol2]; omega) w'
   have fO:=hO.frz i (by rw [hol2]; omega)
   obtain ⟨z0,cO⟩:∃ z,wo.cell? (valAt ov i)=some z:=⟨_,hO.at.cell i (by rw [hol2]; omega)⟩
   have hset:=hO.set i (by rw [hol2]; omega) c
   have hsb:=hO.setBelow hB i (by rw [hol2]; omega) (.int .u32 (c:Int))
   rw [show i+1-i=0+1 by omega,set_zeros hol,List.replicate_zero,List.append_nil] at hset
   rw [natV_take_all (by rw [hn.out]; exact Nat.le_refl _),natV_take_all (by rw [hq.out]; exact hqn)] at hv
   have hval:natV (o++[c])=natV l+natV m:=(by rw [natV_snoc,hol]; exact hv.trans (Nat.add_comm _ _))
   have hlim:=limbs_snoc hlo (show c<4294967296 by omega)
   obtain ⟨po,hpo⟩:∃ p,valAt ov i=p:=⟨_,rfl⟩
   rw [hpo] at iO cO fO hset hsb
   replace hset:=Hd hset
   replace hsb:=Hd hsb
   replace hv:=Hd hv
   replace hO:=Hd hO
   replace hlo:=Hd hlo
   replace hol:=Hd hol
   replace hol2:=Hd hol2
   replace hpo:=Hd hpo
   replace hval:=Hd hval
   replace hlim:=Hd hlim
   go_wp2_with fail
   refine (norm_own w.heap.size _ _ _ _ hset.out hlim.out hval.out).mono ?_
   rintro e w' ⟨⟨x,rfl,hx⟩,rfl⟩
   replace hx:=Hd hx
   go_wp2
   go_ret
   exact ⟨_,rfl,hsb.out,hx.out⟩
theorem nat_add (v u:Value) (l m:List Nat) (w:World) (h:LimbsAt w v l) (k:LimbsAt w u m) (hl:Limbs l) (hm:Limbs m) (hll:l.length≤1000000) (hml:m.length≤1000000) :
 Calls Tryz.prog 216 #[v,u] w (Ret1 (fun x w'=>NumIs w.heap.size w' x (natV l+natV m)) w):=by
 by_cases hlt:l.length<m.length
 ·exact add_lt v u l m w h k hl hm hml hlt
 ·exact add_ge v u l m w h k hl hm hll (by omega)
theorem nat_over (d:Nat) (v:Value) (l:List Nat) (w:World) (h:LimbsAt w v l) (hl:Limbs l) (hll:l.length≤1000000) (hd:1≤d) (hd2:d<4294967296) :
 Calls Tryz.prog 148 #[v,.int .u32 (d:Int)] w (Ret3 (fun x y z w'=>NumIs w.heap.size w' x (natV l/d)∧y=.int .u32 ((natV l%d:Nat):Int)∧z=.nilIface) w):=by
 have l1:=h.len
 obtain ⟨n,hn⟩:∃ n,l.length=n:=⟨_,rfl⟩
 rw [hn] at l1
 obtain ⟨ov,w1,mk,ho,b1⟩:=run_makeNat (n:Int) n w rfl (by omega)
 have d1:((d:Int)==0)=false:=by rw [beq_eq_false_iff_ne]; omega
 have hnb:n≤1000000:=by omega
 replace h:=Hd h
 replace hl:=Hd hl
 replace ho:=Hd ho
 replace hn:=Hd hn
 go_enter Tryz.func148,Tryz.ntmps148
 go_wp2_with fail
 go_loopw [8,9] (fun rv iv wr=>∃ (i s:Nat) (o:List Nat),i≤n∧iv=.int .i64 ((i:Int)-1)∧rv=.int .u32 (s:Int)∧s<d∧o.length=n-i∧Limbs o∧OwnN w.heap.size wr ov (List.replicate i 0++o)∧Below w.heap.size w wr∧natV o*d+s=natV (l.drop i)) (fun _ iv _=>(intOf iv+1).toNat)
 case atStart=>exact ⟨n,0,[],Nat.le_refl _,rfl,rfl,hd,by simp,(fun x hx=>by cases hx),by simpa using ho.out,b1,by rw [List.drop_of_length_le (by rw [hn.out]; exact Nat.le_refl _)]; simp [natV]⟩
 case round =>
  clear mk
  obtain ⟨i,s,o,hi,rfl,rfl,hs,hol,hlo,hO,hB,hv⟩:=hrel
  obtain ⟨wo,rfl⟩:∃ wo:World,wo=wr:=⟨_,rfl⟩
  by_cases hin:i=0
  ·subst hin
   rw [List.drop_zero] at hv
   have hq:natV o=natV l/d∧s=natV l%d:=by
    rw [← hv,Nat.mul_comm,Nat.mul_add_div (by omega),Nat.div_eq_of_lt hs,Nat.mul_add_mod,Nat.mod_eq_of_lt hs]; exact ⟨rfl,rfl⟩
   rw [List.replicate_zero,List.nil_append] at hO
   have hO':=Hd hO
   have hlo':=Hd hlo
   have hq':=Hd hq
   clear hO hlo hq
   replace hv:=Hd hv
   have di:decide ((0:Int)≤((0:Nat):Int)-1)=false:=by decide
   go_wp2_with fail
   refine (norm_own w.heap.size _ _ _ _ hO'.out hlo'.out hq'.out.1).mono ?_
   rintro e w' ⟨⟨x,rfl,hx⟩,rfl⟩
   replace hx:=Hd hx
   go_wp2
   go_ret3
   exact ⟨_,_,_,rfl,hB,hx.out,by rw [hq'.out.2]; rfl,rfl⟩
  ·obtain ⟨j,rfl⟩:∃ j,i=j+1:=⟨i-1,by omega⟩
   have e1:((j+1:Nat):Int)-1=(j:Int):=by omega
   rw [e1]
   have hA:=h.out.below hB
   have iA:=fun w'=>hA.idx j (by rw [hn.out]; omega) w'
   have cA:=hA.cell j (by rw [hn.out]; omega)
   have xl:=limb_getD hl.out j
   have hol2:(List.replicate (j+1) 0++o).length=n:=by rw [List.length_append,List.length_replicate,hol]; omega
   have iO:=fun w'=>hO.at.idx j (by rw [hol2]; omega) w'
   have fO:=hO.frz j (by rw [hol2]; omega)
   obtain ⟨z0,cO⟩:∃ z,wo.cell? (valAt ov j)=some z:=⟨_,hO.at.cell j (by rw [hol2]; omega)⟩
   have hdr:l.drop j=l.getD j 0::l.drop (j+1):=by
    rw [List.drop_eq_getElem_cons (by rw [hn.out]; omega)]; simp [List.getD,show j<l.length by rw [hn.out]; omega]
   obtain ⟨x,hx⟩:∃ x,l.getD j 0=x:=⟨_,rfl⟩
   rw [hx] at cA xl hdr
   have hset:=hO.set j (by rw [hol2]; omega) ((s*4294967296+x)/d)
   have hsb:=hO.setBelow hB j (by rw [hol2]; omega) (.int .u32 (((s*4294967296+x)/d:Nat):Int))
   have hse:(List.replicate (j+1) 0++o).set j ((s*4294967296+x)/d)=List.replicate j 0++((s*4294967296+x)/d::o):=by
    rw [List.replicate_succ',List.append_assoc,List.set_append_right _ _ (by simp)]
    simp
   rw [hse] at hset
   have hst:=over_step (x:=x) hv
   have hql:=over_limb hs xl
   have hdv:=div32_any s x d wo hs xl hd2
   have hs2:(s*4294967296+x)%d<d:=Nat.mod_lt _ (by omega)
   have hval:natV ((s*4294967296+x)/d::o)*d+(s*4294967296+x)%d=natV (l.drop j):=by
    rw [hdr,natV,natV]; exact hst
   obtain ⟨pa,hpa⟩:∃ p,valAt v j=p:=⟨_,rfl⟩
   obtain ⟨po,hpo⟩:∃ p,valAt ov j=p:=⟨_,rfl⟩
   rw [hpa] at iA cA
   rw [hpo] at iO cO fO hset hsb
   obtain ⟨q,hq⟩:∃ q,(s*4294967296+x)/d=q:=⟨_,rfl⟩
   obtain ⟨s2,hs2'⟩:∃ q,(s*4294967296+x)%d=q:=⟨_,rfl⟩
   rw [hq] at hset hsb hql hdv hval
   rw [hs2'] at hdv hs2 hval
   have hlo2:Limbs (q::o):=fun z hz=>by
    rcases List.mem_cons.1 hz with rfl | hz
    ·exact hql
    ·exact hlo z hz
   have di:decide ((0:Int)≤(j:Int))=true:=decide_eq_true (by omega)
   replace hset:=Hd hset
   replace hsb:=Hd hsb
   replace hval:=Hd hval
   replace hv:=Hd hv
   replace hO:=Hd hO
   replace hlo:=Hd hlo
   replace hlo2:=Hd hlo2
   replace hol:=Hd hol
   replace hol2:=Hd hol2
   replace hx:=Hd hx
   replace hq:=Hd hq
   replace hs2':=Hd hs2'
   replace hpa:=Hd hpa
   replace hpo:=Hd hpo
   replace hdr:=Hd hdr
   replace hse:=Hd hse
   replace hst:=Hd hst
   replace hdv:=Hd hdv
   replace hA:=Hd hA
   clear e1
   go_wp2_with fail
   refine hdv.out.mono ?_
   rintro e w' ⟨rfl,m,rfl⟩
   go_wp2
   go_roundw
   case measure=>simp [intOf]
   case rel=>exact ⟨j,s2,_,by omega,by go_num,rfl,hs2,by rw [List.length_cons,hol.out]; omega,hlo2.out,hset.out,belowN hsb.out m,hval.out⟩
end Go.Proofs.YtindfaehjoileaaGreatDoor
namespace Go.Proofs.YtindfaehjoileaaGreatDoor
theorem digs_numW {K:Nat} (hK:1≤K) (w:List Int) (h:Syms K w):digs K w.length (numW K w)=w:=by
 induction hn:w.length generalizing w with
 | zero=>obtain rfl:=List.eq_nil_of_length_eq_zero hn; rfl
 | succ n ih =>
  have hne:w≠[]:=by intro e; subst e; simp at hn
  obtain ⟨b,x,rfl⟩:∃ b x,w=b++[x]:=⟨w.dropLast,w.getLast hne,(List.dropLast_concat_getLast hne).symm⟩
  have hb:b.length=n:=by simpa using hn
  have hx:=h x (by simp)
  have hxn:x.toNat<K:=by omega
  have:=ih b (fun y hy=>h y (by simp [hy])) hb
  rw [digs,numW_snoc]
  rw [show (numW K b*K+x.toNat)/K=numW K b by rw [Nat.mul_comm,Nat.mul_add_div (by omega),Nat.div_eq_of_lt hxn,Nat.add_zero],this,
   show (numW K b*K+x.toNat)%K=x.toNat by rw [Nat.mul_comm,Nat.mul_add_mod,Nat.mod_eq_of_lt hxn]]
  congr 2
  omega
theorem mul_add_lt {K q s m:Nat} (hs:s<K) (hq:q<m):q*K+s<m*K:=by
 have:=Nat.mul_le_mul_right K (show q+1≤m from hq)
 rw [Nat.succ_mul] at this
 omega
theorem div_mk {K q s:Nat} (hs:s<K):(q*K+s)/K=q:=by
 rw [Nat.mul_comm,Nat.mul_add_div (by omega),Nat.div_eq_of_lt hs,Nat.add_zero]
theorem mod_mk {K q s:Nat} (hs:s<K):(q*K+s)%K=s:=by
 rw [Nat.mul_comm,Nat.mul_add_mod,Nat.mod_eq_of_lt hs]
theorem num_shift {K:Nat} {u:List Int} {s:Int} (h:Syms K (u++[s])):numW K ((u++[s]).drop 1)=numW K (u++[s])%pw K u.length:=by
 have hl:((u++[s]).drop 1).length=u.length:=by simp
 have:=numW_mod (K:=K) (u:=(u++[s]).take 1) (v:=(u++[s]).drop 1) (fun y hy=>h y (List.mem_of_mem_drop hy))
 rw [List.take_append_drop,hl] at this
 exact this.symm
inductive Goes (adj:Nat→List Nat):Nat→Nat→Prop
 | refl (x:Nat):Goes adj x x
 | step {x y z:Nat} (h:Goes adj x y) (hz:z∈adj y):Goes adj x z
theorem Goes.one {adj:Nat→List Nat} {x y:Nat} (h:y∈adj x):Goes adj x y:=.step (.refl x) h
theorem Goes.trans {adj:Nat→List Nat} {x y z:Nat} (h:Goes adj x y) (h2:Goes adj y z):Goes adj x z:=by
 induction h2 with
 | refl=>exact h
 | step _ hz ih=>exact .step ih hz
theorem Goes.closed {adj:Nat→List Nat} {P:Nat→Prop} (hP:∀ x,P x→∀ t∈adj x,P t) {x y:Nat} (h:Goes adj x y) (hx:P x):P y:=by
 induction h with
 | refl=>exact hx
 | step _ hz ih=>exact hP _ ih _ hz
def updN {α:Type} (f:Nat→α) (v:Nat) (a:α):Nat→α:=fun x=>if x=v then a else f x
theorem updN_same {α:Type} (f:Nat→α) (v:Nat) (a:α):updN f v a v=a:=by simp [updN]
theorem updN_other {α:Type} (f:Nat→α) (v:Nat) (a:α) {x:Nat} (h:x≠v):updN f v a x=f x:=by simp [updN,h]
theorem updN_self {α:Type} (f:Nat→α) (v:Nat):updN f v (f v)=f:=by funext x; by_cases h:x=v<;>simp [updN,h]
structure TS where
 time:Nat
 low:Nat→Nat
 found:Nat→Nat
 idx:Nat→Nat
 opn:List Nat
 part:Nat→Int
 calls:List Nat
def enterS (S:TS) (v:Nat):TS:={ S with time:=S.time+1,low:=updN S.low v (S.time+1),found:=updN S.found v (S.time+1),idx:=updN S.idx v 0,opn:=v::S.opn,calls:=v::S.calls }
def closeS (v:Nat):List Nat→(Nat→Int)→List Nat×(Nat→Int)
 | [],p=>([],p)
 | t::r,p=>if t=v then (r,updN p t v) else closeS v r (updN p t v)
def lowS (low:Nat→Nat) (v:Nat):List Nat→Nat→Nat
 | []=>low
 | u::_=>updN low u (min (low u) (low v))
def leaveS (S:TS) (v:Nat) (r:List Nat):TS :=
 if lowS S.low v r v=S.found v then { S with low:=lowS S.low v r,calls:=r,opn:=(closeS v S.opn S.part).1,part:=(closeS v S.opn S.part).2 }
 else { S with low:=lowS S.low v r,calls:=r }
def stepS (adj:Nat→List Nat) (S:TS):TS :=
 match S.calls with
 | []=>S
 | v::r =>
  if S.idx v=(adj v).length then leaveS S v r
  else
   let t:=(adj v).getD (S.idx v) 0
   let S1:={ S with idx:=updN S.idx v (S.idx v+1) }
   if S.found t=0 then enterS S1 t
   else if S.part t<0 then { S1 with low:=updN S.low v (min (S.low v) (S.found t)) }
   else S1
theorem stepS_nil {adj:Nat→List Nat} {S:TS} (hc:S.calls=[]):stepS adj S=S:=by
 cases S; simp only at hc; subst hc; rfl
theorem stepS_cons {adj:Nat→List Nat} {S:TS} {v:Nat} {r:List Nat} (hc:S.calls=v::r):stepS adj S =
 if S.idx v=(adj v).length then leaveS S v r
 else if S.found ((adj v).getD (S.idx v) 0)=0 then enterS { S with idx:=updN S.idx v (S.idx v+1) } ((adj v).getD (S.idx v) 0)
 else if S.part ((adj v).getD (S.idx v) 0)<0 then { S with idx:=updN S.idx v (S.idx v+1),low:=updN S.low v (min (S.low v) (S.found ((adj v).getD (S.idx v) 0))) }
 else { S with idx:=updN S.idx v (S.idx v+1) }:=by
 cases S; simp only at hc; subst hc; rfl
def wsum (c found:Nat→Nat):Nat→Nat
 | 0=>0
 | n+1=>wsum c found n+if found n=0 then c n else 0
theorem wsum_upd (c found:Nat→Nat) (t a:Nat) (ha:a≠0) (ht:found t=0) (n:Nat) :
 wsum c (updN found t a) n+(if t<n then c t else 0)=wsum c found n:=by
 induction n with
 | zero=>simp [wsum]
 | succ n ih =>
  simp only [wsum]
  by_cases e:n=t
  ·subst e
   rw [if_neg (Nat.lt_irrefl n)] at ih
   rw [updN_same,if_neg ha,if_pos ht,if_pos (by omega)]; omega
  ·rw [updN_other _ _ _ e]
   by_cases h:t<n
   ·rw [if_pos h] at ih; rw [if_pos (show t<n+1 by omega)]; omega
   ·rw [if_neg h] at ih; rw [if_neg (show ¬ t<n+1 by omega)]; omega
structure TInv (n:Nat) (adj:Nat→List Nat) (S:TS):Prop where
 adjLt:∀ v,v<n→∀ t∈adj v,t<n
 seenLt:∀ v,S.found v≠0→v<n
 leTime:∀ v,S.found v≤S.time
 count:S.time+wsum (fun _=>1) S.found n=n
 inj:∀ x y,S.found x=S.found y→S.found x≠0→x=y
 opnIff:∀ v,v∈S.opn↔S.found v≠0∧S.part v<0
 opnSorted:S.opn.Pairwise (fun a b=>S.found b<S.found a)
 callsSorted:S.calls.Pairwise (fun a b=>S.found b<S.found a)
 callsOpen:∀ c∈S.calls,c∈S.opn
 idxLe:∀ v,v∈S.opn→S.idx v≤(adj v).length
 idxDone:∀ v,v∈S.opn→v∉S.calls→S.idx v=(adj v).length
 partSeen:∀ v,0≤S.part v→S.found v≠0
 partLow:∀ v,-1≤S.part v
 A:∀ c∈S.calls,∀ x∈S.opn,S.found c≤S.found x→Goes adj c x
 B:∀ x∈S.opn,∃ c∈S.calls,S.found c≤S.found x∧Goes adj x c
 C:∀ x,0≤S.part x→∀ t∈adj x,0≤S.part t
 D:∀ x∈S.opn,∀ j<S.idx x,∀ t,(adj x)[j]?=some t→S.found t≠0
 E:∀ x∈S.opn,∀ j<S.idx x,∀ t∈S.opn,(adj x)[j]?=some t→∀ c∈S.calls,S.found c≤S.found x →
  (∀ d∈S.calls,S.found d≤S.found x→S.found d≤S.found c)→S.low c≤S.found t
 F:∀ c∈S.calls,S.low c≤S.found c
 G:∀ c∈S.calls,∃ z∈S.opn,S.found z=S.low c∧Goes adj c z
 P1:∀ x,0≤S.part x→∃ p:Nat,S.part x=p∧0≤S.part p∧Goes adj x p∧Goes adj p x
 P2:∀ x y,0≤S.part x→0≤S.part y→Goes adj x y→Goes adj y x→S.part x=S.part y
variable {n:Nat} {adj:Nat→List Nat} {S:TS}
theorem TInv.callsSeen (h:TInv n adj S) {c:Nat} (hc:c∈S.calls):S.found c≠0∧S.part c<0:=(h.opnIff c).1 (h.callsOpen c hc)
theorem TInv.opn_nil (h:TInv n adj S) (hc:S.calls=[]):S.opn=[]:=by
 cases e:S.opn with
 | nil=>rfl
 | cons x l =>
  obtain ⟨c,hm,_⟩:=h.B x (by rw [e]; exact List.mem_cons_self)
  rw [hc] at hm; cases hm
theorem TInv.enterRoot (h:TInv n adj S) (hc:S.calls=[]) {v:Nat} (hv:v<n) (hw:S.found v=0):TInv n adj (enterS S v):=by
 have ho:=h.opn_nil hc
 have hp:S.part v<0:=by
  by_cases hp:S.part v<0
  ·exact hp
  ·exact absurd hw (h.partSeen v (by omega))
 have hcnt:=wsum_upd (fun _=>1) S.found v (S.time+1) (by omega) hw n
 rw [if_pos hv] at hcnt
 have hcl:∀ x,0≤S.part x→x≠v:=fun x hx e=>by subst e; omega
 constructor
 case adjLt=>exact h.adjLt
 case seenLt =>
  intro x hx
  by_cases e:x=v
  ·omega
  ·simp only [enterS,updN_other _ _ _ e] at hx; exact h.seenLt x hx
 case leTime =>
  intro x
  simp only [enterS]
  by_cases e:x=v
  ·subst e; rw [updN_same]; omega
  ·rw [updN_other _ _ _ e]; have:=h.leTime x; omega
 case count=>simp only [enterS]; have:=h.count; omega
 case inj =>
  intro x y hxy hx
  simp only [enterS] at hxy hx
  by_cases ex:x=v<;>by_cases ey:y=v
  ·omega
  ·subst ex; rw [updN_same,updN_other _ _ _ ey] at hxy; have:=h.leTime y; omega
  ·subst ey; rw [updN_same,updN_other _ _ _ ex] at hxy; have:=h.leTime x; omega
  ·rw [updN_other _ _ _ ex,updN_other _ _ _ ey] at hxy; rw [updN_other _ _ _ ex] at hx; exact h.inj x y hxy hx
 case opnIff =>
  intro x
  simp only [enterS,ho,List.mem_singleton]
  by_cases e:x=v
  ·subst e; rw [updN_same]; exact ⟨fun _=>⟨by omega,hp⟩,fun _=>rfl⟩
  ·rw [updN_other _ _ _ e]
   refine ⟨fun h1=>absurd h1 e,fun h1=>?_⟩
   have:=(h.opnIff x).2 h1; rw [ho] at this; cases this
 case opnSorted=>simp only [enterS,ho]; exact List.pairwise_singleton _ _
 case callsSorted=>simp only [enterS,hc]; exact List.pairwise_singleton _ _
 case callsOpen=>intro c hc2; simp only [enterS,hc,ho] at hc2 ⊢; exact hc2
 case idxLe =>
  intro x hx; simp only [enterS,ho,List.mem_singleton] at hx ⊢; subst hx; rw [updN_same]; omega
 case idxDone=>intro x hx hx2; simp only [enterS,hc,ho] at hx hx2; exact absurd hx hx2
 case partSeen =>
  intro x hx; simp only [enterS] at hx ⊢; rw [updN_other _ _ _ (hcl x hx)]; exact h.partSeen x hx
 case partLow=>exact h.partLow
 case A =>
  intro c hc2 x hx _
  simp only [enterS,hc,ho,List.mem_singleton] at hc2 hx
  subst hc2; subst hx; exact .refl _
 case B =>
  intro x hx
  simp only [enterS,ho,List.mem_singleton] at hx
  subst hx; exact ⟨x,by simp [enterS],Nat.le_refl _,.refl _⟩
 case C=>exact h.C
 case D =>
  intro x hx j hj; simp only [enterS,ho,List.mem_singleton] at hx hj; subst hx; rw [updN_same] at hj; omega
 case E =>
  intro x hx j hj; simp only [enterS,ho,List.mem_singleton] at hx hj; subst hx; rw [updN_same] at hj; omega
 case F =>
  intro c hc2; simp only [enterS,hc,List.mem_singleton] at hc2 ⊢; subst hc2; rw [updN_same,updN_same]; exact Nat.le_refl _
 case G =>
  intro c hc2; simp only [enterS,hc,List.mem_singleton] at hc2 ⊢; subst hc2; exact ⟨c,List.mem_cons_self,by rw [updN_same,updN_same],.refl _⟩
 case P1=>exact h.P1
 case P2=>exact h.P2
theorem TInv.enterEdge (h:TInv n adj S) {v:Nat} {r:List Nat} (hc:S.calls=v::r) {t:Nat} (ht:(adj v)[S.idx v]?=some t) (hw:S.found t=0) :
 TInv n adj (enterS { S with idx:=updN S.idx v (S.idx v+1) } t):=by
 have hvc:v∈S.calls:=by rw [hc]; exact List.mem_cons_self
 have hvo:=h.callsOpen v hvc
 have hvs:=h.callsSeen hvc
 have hvn:=h.seenLt v hvs.1
 have htm:t∈adj v:=List.mem_of_getElem? ht
 have htn:=h.adjLt v hvn t htm
 have hil:S.idx v<(adj v).length:=by
  by_cases q:S.idx v<(adj v).length
  ·exact q
  ·rw [List.getElem?_eq_none (by omega)] at ht; cases ht
 have hp:S.part t<0:=by
  by_cases hp:S.part t<0
  ·exact hp
  ·exact absurd hw (h.partSeen t (by omega))
 have hcnt:=wsum_upd (fun _=>1) S.found t (S.time+1) (by omega) hw n
 rw [if_pos htn] at hcnt
 have hcl:∀ x,0≤S.part x→x≠t:=fun x hx e=>by subst e; omega
 have hop:∀ x,x∈S.opn→x≠t:=fun x hx e=>by subst e; exact ((h.opnIff x).1 hx).1 hw
 have hca:∀ x,x∈S.calls→x≠t:=fun x hx=>hop x (h.callsOpen x hx)
 have fo:∀ x,x∈S.opn→updN S.found t (S.time+1) x=S.found x:=fun x hx=>updN_other _ _ _ (hop x hx)
 have fc:∀ x,x∈S.calls→updN S.found t (S.time+1) x=S.found x:=fun x hx=>updN_other _ _ _ (hca x hx)
 have lc:∀ x,x∈S.calls→updN S.low t (S.time+1) x=S.low x:=fun x hx=>updN_other _ _ _ (hca x hx)
 have ft:updN S.found t (S.time+1) t=S.time+1:=updN_same _ _ _
 have lt:updN S.low t (S.time+1) t=S.time+1:=updN_same _ _ _
 have hgt:∀ c∈S.calls,Goes adj c t:=fun c hcm=>by
  refine .step (h.A c hcm v hvo ?_) htm
  have:=h.callsSorted
  rw [hc] at this hcm
  rcases List.mem_cons.1 hcm with e | e
  ·rw [e]; exact Nat.le_refl _
  ·exact Nat.le_of_lt ((List.pairwise_cons.1 this).1 c e)
 have ix:∀ x,x∈S.opn→∀ j,j<updN (updN S.idx v (S.idx v+1)) t 0 x→j<S.idx x∨(x=v∧j=S.idx v):=fun x hx j hj=>by
  rw [updN_other _ _ _ (hop x hx)] at hj
  by_cases e:x=v
  ·subst e; rw [updN_same] at hj; omega
  ·rw [updN_other _ _ _ e] at hj; exact .inl hj
 have mono:∀ x,S.found x≠0→updN S.found t (S.time+1) x≠0:=fun x hx=>by
  by_cases e:x=t
  ·subst e; exact absurd hw hx
  ·rw [updN_other _ _ _ e]; exact hx
 constructor
 case adjLt=>exact h.adjLt
 case seenLt =>
  intro x hx
  by_cases e:x=t
  ·omega
  ·simp only [enterS,updN_other _ _ _ e] at hx; exact h.seenLt x hx
 case leTime =>
  intro x
  simp only [enterS]
  by_cases e:x=t
  ·subst e; rw [updN_same]; omega
  ·rw [updN_other _ _ _ e]; have:=h.leTime x; omega
 case count=>simp only [enterS]; have:=h.count; omega
 case inj =>
  intro x y hxy hx
  simp only [enterS] at hxy hx
  by_cases ex:x=t<;>by_cases ey:y=t
  ·omega
  ·subst ex; rw [updN_same,updN_other _ _ _ ey] at hxy; have:=h.leTime y; omega
  ·subst ey; rw [updN_same,updN_other _ _ _ ex] at hxy; have:=h.leTime x; omega
  ·rw [updN_other _ _ _ ex,updN_other _ _ _ ey] at hxy; rw [updN_other _ _ _ ex] at hx; exact h.inj x y hxy hx
 case opnIff =>
  intro x
  simp only [enterS,List.mem_cons]
  by_cases e:x=t
  ·subst e; rw [updN_same]; exact ⟨fun _=>⟨by omega,hp⟩,fun _=>.inl rfl⟩
  ·rw [updN_other _ _ _ e,← h.opnIff x]
   exact ⟨fun h1=>h1.resolve_left e,.inr⟩
 case opnSorted =>
  simp only [enterS]
  refine List.pairwise_cons.2 ⟨fun x hx=>?_,h.opnSorted.imp_of_mem fun ha hb hab=>?_⟩
  ·rw [fo x hx,ft]; have:=h.leTime x; omega
  ·rw [fo _ ha,fo _ hb]; exact hab
 case callsSorted =>
  simp only [enterS]
  refine List.pairwise_cons.2 ⟨fun x hx=>?_,h.callsSorted.imp_of_mem fun ha hb hab=>?_⟩
  ·rw [fc x hx,ft]; have:=h.leTime x; omega
  ·rw [fc _ ha,fc _ hb]; exact hab
 case callsOpen =>
  intro c hc2; simp only [enterS,List.mem_cons] at hc2 ⊢; exact hc2.imp id (h.callsOpen c)
 case idxLe =>
  intro x hx; simp only [enterS,List.mem_cons] at hx ⊢
  rcases hx with rfl | hx
  ·rw [updN_same]; omega
  ·rw [updN_other _ _ _ (hop x hx)]
   by_cases e:x=v
   ·subst e; rw [updN_same]; omega
   ·rw [updN_other _ _ _ e]; exact h.idxLe x hx
 case idxDone =>
  intro x hx hx2; simp only [enterS,List.mem_cons,not_or] at hx hx2 ⊢
  have hx3:=hx.resolve_left hx2.1
  rw [updN_other _ _ _ hx2.1,updN_other _ _ _ (fun e=>hx2.2 (by rw [e]; exact hvc))]
  exact h.idxDone x hx3 hx2.2
 case partSeen =>
  intro x hx; simp only [enterS] at hx ⊢; rw [updN_other _ _ _ (hcl x hx)]; exact h.partSeen x hx
 case partLow=>exact h.partLow
 case A =>
  intro c hc2 x hx hle
  simp only [enterS,List.mem_cons] at hc2 hx hle
  rcases hc2 with rfl | hc2
  ·rcases hx with rfl | hx
   ·exact .refl _
   ·rw [ft,fo x hx] at hle; have:=h.leTime x; omega
  ·rcases hx with rfl | hx
   ·exact hgt c hc2
   ·rw [fo x hx,fc c hc2] at hle; exact h.A c hc2 x hx hle
 case B =>
  intro x hx
  simp only [enterS,List.mem_cons] at hx
  rcases hx with rfl | hx
  ·exact ⟨x,by simp [enterS],Nat.le_refl _,.refl _⟩
  ·obtain ⟨c,h1,h2,h3⟩:=h.B x hx
   refine ⟨c,by simp only [enterS,List.mem_cons]; exact .inr h1,?_,h3⟩
   simp only [enterS]; rw [fo x hx,fc c h1]; exact h2
 case C=>exact h.C
 case D =>
  intro x hx j hj t' ht'
  simp only [enterS,List.mem_cons] at hx hj ⊢
  rcases hx with rfl | hx
  ·rw [updN_same] at hj; omega
  ·rcases ix x hx j hj with hj | ⟨rfl,rfl⟩
   ·exact mono _ (h.D x hx j hj t' ht')
   ·rw [ht] at ht'; cases ht'; rw [ft]; omega
 case E =>
  intro x hx j hj t' hto ht' c hc2 hle htop
  simp only [enterS,List.mem_cons] at hx hj hto hc2 hle htop ⊢
  rcases hx with rfl | hx
  ·rw [updN_same] at hj; omega
  ·rcases hc2 with rfl | hc2
   ·rw [ft,fo x hx] at hle; have:=h.leTime x; omega
   ·rw [fc c hc2,fo x hx] at hle
    rw [lc c hc2]
    rcases hto with rfl | hto
    ·rw [ft]; have:=h.F c hc2; have:=h.leTime c; omega
    ·rw [fo _ hto]
     rcases ix x hx j hj with hj | ⟨rfl,rfl⟩
     ·refine h.E x hx j hj t' hto ht' c hc2 hle fun d hd hd2=>?_
      have:=htop d (.inr hd) (by rw [fc d hd,fo x hx]; exact hd2)
      rwa [fc d hd,fc c hc2] at this
     ·rw [ht] at ht'; cases ht'; exact absurd rfl (hop _ hto)
 case F =>
  intro c hc2; simp only [enterS,List.mem_cons] at hc2 ⊢
  rcases hc2 with rfl | hc2
  ·rw [updN_same,updN_same]; exact Nat.le_refl _
  ·rw [lc c hc2,fc c hc2]; exact h.F c hc2
 case G =>
  intro c hc2; simp only [enterS,List.mem_cons] at hc2 ⊢
  rcases hc2 with rfl | hc2
  ·exact ⟨c,.inl rfl,by rw [updN_same,updN_same],.refl _⟩
  ·obtain ⟨z,h1,h2,h3⟩:=h.G c hc2
   exact ⟨z,.inr h1,by rw [lc c hc2,fo z h1]; exact h2,h3⟩
 case P1=>exact h.P1
 case P2=>exact h.P2
theorem TInv.edge (h:TInv n adj S) {v:Nat} {r:List Nat} (hc:S.calls=v::r) {t:Nat} (ht:(adj v)[S.idx v]?=some t) (hw:S.found t≠0) (lo:Nat→Nat)
 (hlo:∀ c,c≠v→lo c=S.low c) (hle:lo v≤S.low v) (hlt:S.part t<0→lo v≤S.found t) (hlg:lo v=S.low v∨(S.part t<0∧lo v=S.found t)) :
 TInv n adj { S with idx:=updN S.idx v (S.idx v+1),low:=lo }:=by
 have hvc:v∈S.calls:=by rw [hc]; exact List.mem_cons_self
 have hvo:=h.callsOpen v hvc
 have htm:t∈adj v:=List.mem_of_getElem? ht
 have hil:S.idx v<(adj v).length:=by
  by_cases q:S.idx v<(adj v).length
  ·exact q
  ·rw [List.getElem?_eq_none (by omega)] at ht; cases ht
 have lol:∀ c,lo c≤S.low c:=fun c=>by
  by_cases e:c=v
  ·rw [e]; exact hle
  ·rw [hlo c e]; exact Nat.le_refl _
 have ix:∀ x,∀ j,j<updN S.idx v (S.idx v+1) x→j<S.idx x∨(x=v∧j=S.idx v):=fun x j hj=>by
  by_cases e:x=v
  ·subst e; rw [updN_same] at hj; omega
  ·rw [updN_other _ _ _ e] at hj; exact .inl hj
 constructor
 case adjLt=>exact h.adjLt
 case seenLt=>exact h.seenLt
 case leTime=>exact h.leTime
 case count=>exact h.count
 case inj=>exact h.inj
 case opnIff=>exact h.opnIff
 case opnSorted=>exact h.opnSorted
 case callsSorted=>exact h.callsSorted
 case callsOpen=>exact h.callsOpen
 case idxLe =>
  intro x hx
  show updN S.idx v (S.idx v+1) x≤_
  by_cases e:x=v
  ·subst e; rw [updN_same]; omega
  ·rw [updN_other _ _ _ e]; exact h.idxLe x hx
 case idxDone =>
  intro x hx hx2
  show updN S.idx v (S.idx v+1) x=_
  rw [updN_other _ _ _ (fun e=>hx2 (by rw [e]; exact hvc))]
  exact h.idxDone x hx hx2
 case partSeen=>exact h.partSeen
 case partLow=>exact h.partLow
 case A=>exact h.A
 case B=>exact h.B
 case C=>exact h.C
 case D =>
  intro x hx j hj t' ht'
  rcases ix x j hj with hj | ⟨rfl,rfl⟩
  ·exact h.D x hx j hj t' ht'
  ·rw [ht] at ht'; cases ht'; exact hw
 case E =>
  intro x hx j hj t' hto ht' c hc2 hcx htop
  show lo c≤_
  rcases ix x j hj with hj | ⟨rfl,rfl⟩
  ·exact Nat.le_trans (lol c) (h.E x hx j hj t' hto ht' c hc2 hcx htop)
  ·rw [ht] at ht'; cases ht'
   have e:c=x:=by
    have h1:=htop x hvc (Nat.le_refl _)
    exact h.inj c x (by have h2:S.found c≤S.found x:=hcx; have h3:S.found x≤S.found c:=h1; omega) (h.callsSeen hc2).1
   subst e
   exact hlt ((h.opnIff t).1 hto).2
 case F=>intro c hc2; exact Nat.le_trans (lol c) (h.F c hc2)
 case G =>
  intro c hc2
  show ∃ z∈S.opn,S.found z=lo c∧_
  by_cases e:c=v
  ·subst e
   rcases hlg with e | ⟨e1,e2⟩
   ·rw [e]; exact h.G c hc2
   ·exact ⟨t,(h.opnIff t).2 ⟨hw,e1⟩,e2.symm,.one htm⟩
  ·rw [hlo c e]; exact h.G c hc2
 case P1=>exact h.P1
 case P2=>exact h.P2
theorem TInv.low_eq (h:TInv n adj S) {v:Nat} {r:List Nat} (hc:S.calls=v::r):lowS S.low v r v=S.low v:=by
 cases r with
 | nil=>rfl
 | cons u r =>
  have:=h.callsSorted
  rw [hc] at this
  have h1:=(List.pairwise_cons.1 this).1 u List.mem_cons_self
  exact updN_other _ _ _ (fun e=>by subst e; omega)
theorem TInv.leaveN (h:TInv n adj S) {v:Nat} {r:List Nat} (hc:S.calls=v::r) (hi:S.idx v=(adj v).length) (hl:S.low v≠S.found v) :
 TInv n adj { S with low:=lowS S.low v r,calls:=r }:=by
 have hvc:v∈S.calls:=by rw [hc]; exact List.mem_cons_self
 have hvo:=h.callsOpen v hvc
 have hsrt:=h.callsSorted
 rw [hc] at hsrt
 have hrl:∀ c∈r,S.found c<S.found v:=(List.pairwise_cons.1 hsrt).1
 have hsub:∀ c∈r,c∈S.calls:=fun c hm=>by rw [hc]; exact List.mem_cons_of_mem _ hm
 have hcs:∀ c∈S.calls,c=v∨c∈r:=fun c hm=>by rw [hc] at hm; exact List.mem_cons.1 hm
 have hF:=h.F v hvc
 obtain ⟨z,hz1,hz2,hz3⟩:=h.G v hvc
 obtain ⟨g,hg1,hg2,hg3⟩:=h.B z hz1
 have hgr:g∈r:=(hcs g hg1).resolve_left (fun e=>by subst e; omega)
 obtain ⟨u,r',rfl⟩:∃ u r',r=u::r':=by cases r with
  | nil=>cases hgr
  | cons u r'=>exact ⟨u,r',rfl⟩
 have hur:u∈u::r':=List.mem_cons_self
 have huc:=hsub u hur
 have hru:∀ c∈u::r',S.found c≤S.found u:=fun c hm=>by
  rcases List.mem_cons.1 hm with e | e
  ·rw [e]; exact Nat.le_refl _
  ·exact Nat.le_of_lt ((List.pairwise_cons.1 (List.pairwise_cons.1 hsrt).2).1 c e)
 have lol:∀ c,lowS S.low v (u::r') c≤S.low c:=fun c=>by
  show updN S.low u _ c≤_
  by_cases e:c=u
  ·subst e; rw [updN_same]; omega
  ·rw [updN_other _ _ _ e]; exact Nat.le_refl _
 have lou:lowS S.low v (u::r') u=min (S.low u) (S.low v):=updN_same _ _ _
 have loc:∀ c,c≠u→lowS S.low v (u::r') c=S.low c:=fun c e=>updN_other _ _ _ e
 constructor
 case adjLt=>exact h.adjLt
 case seenLt=>exact h.seenLt
 case leTime=>exact h.leTime
 case count=>exact h.count
 case inj=>exact h.inj
 case opnIff=>exact h.opnIff
 case opnSorted=>exact h.opnSorted
 case callsSorted=>exact (List.pairwise_cons.1 hsrt).2
 case callsOpen=>exact fun c hm=>h.callsOpen c (hsub c hm)
 case idxLe=>exact h.idxLe
 case idxDone =>
  intro x hx hx2
  show S.idx x=_
  by_cases e:x=v
  ·rw [e]; exact hi
  ·exact h.idxDone x hx (fun hm=>(hcs x hm).elim e hx2)
 case partSeen=>exact h.partSeen
 case partLow=>exact h.partLow
 case A=>exact fun c hm=>h.A c (hsub c hm)
 case B =>
  intro x hx
  obtain ⟨c,h1,h2,h3⟩:=h.B x hx
  rcases hcs c h1 with rfl | hcr
  ·refine ⟨g,hgr,?_,h3.trans (hz3.trans hg3)⟩
   show S.found g≤S.found x
   omega
  ·exact ⟨c,hcr,h2,h3⟩
 case C=>exact h.C
 case D=>exact h.D
 case E =>
  intro x hx j hj t hto ht c hc2 hcx htop
  have hcx:S.found c≤S.found x:=hcx
  have htop:∀ d∈u::r',S.found d≤S.found x→S.found d≤S.found c:=htop
  show lowS S.low v (u::r') c≤S.found t
  by_cases hvx:S.found v≤S.found x
  ·have hux:=htop u hur (by have:=hrl u hur; omega)
   have hcu:=hru c hc2
   have e:c=u:=h.inj c u (by omega) (h.callsSeen (hsub c hc2)).1
   rw [e,lou]
   have:=h.E x hx j hj t hto ht v hvc hvx (fun d hd _=>by
    rcases hcs d hd with e | e
    ·rw [e]; exact Nat.le_refl _
    ·exact Nat.le_of_lt (hrl d e))
   omega
  ·refine Nat.le_trans (lol c) (h.E x hx j hj t hto ht c (hsub c hc2) hcx fun d hd hdx=>?_)
   rcases hcs d hd with e | e
   ·rw [e] at hdx; exact absurd hdx hvx
   ·exact htop d e hdx
 case F=>exact fun c hm=>Nat.le_trans (lol c) (h.F c (hsub c hm))
 case G =>
  intro c hc2
  show ∃ z∈S.opn,S.found z=lowS S.low v (u::r') c∧_
  by_cases e:c=u
  ·subst e
   rw [lou]
   by_cases q:S.low v≤S.low c
   ·rw [Nat.min_eq_right q]
    exact ⟨z,hz1,hz2,(h.A c huc v hvo (Nat.le_of_lt (hrl c hur))).trans hz3⟩
   ·rw [Nat.min_eq_left (by omega)]; exact h.G c huc
  ·rw [loc c e]; exact h.G c (hsub c hc2)
 case P1=>exact h.P1
 case P2=>exact h.P2
theorem closeS_spec (found:Nat→Nat) (v:Nat):∀ (l:List Nat) (p:Nat→Int),l.Pairwise (fun a b=>found b<found a)→v∈l →
 (closeS v l p).1.Sublist l∧(∀ x,x∈(closeS v l p).1↔x∈l∧found x<found v) ∧
 (∀ x,(x∈l∧found v≤found x)→(closeS v l p).2 x=(v:Int))∧(∀ x,¬ (x∈l∧found v≤found x)→(closeS v l p).2 x=p x):=by
 intro l
 induction l with
 | nil=>intro p _ h; cases h
 | cons t r ih =>
  intro p hs hv
  have ⟨h1,h2⟩:=List.pairwise_cons.1 hs
  unfold closeS
  by_cases e:t=v
  ·subst e
   rw [if_pos rfl]
   refine ⟨List.sublist_cons_self _ _,fun x=>?_,fun x ⟨hx,hf⟩=>?_,fun x hx=>?_⟩
   ·refine ⟨fun hx=>⟨List.mem_cons_of_mem _ hx,h1 x hx⟩,fun ⟨hx,hf⟩=>?_⟩
    rcases List.mem_cons.1 hx with e | e
    ·subst e; omega
    ·exact e
   ·rcases List.mem_cons.1 hx with e | e
    ·subst e; exact updN_same _ _ _
    ·have:=h1 x e; omega
   ·exact updN_other _ _ _ (fun e=>hx (by rw [e]; exact ⟨List.mem_cons_self,Nat.le_refl _⟩))
  ·rw [if_neg e]
   have hvr:v∈r:=(List.mem_cons.1 hv).resolve_left (fun q=>e q.symm)
   obtain ⟨i1,i2,i3,i4⟩:=ih (updN p t v) h2 hvr
   have htv:=h1 v hvr
   refine ⟨i1.trans (List.sublist_cons_self _ _),fun x=>?_,fun x ⟨hx,hf⟩=>?_,fun x hx=>?_⟩
   ·rw [i2 x]
    refine ⟨fun ⟨a,b⟩=>⟨List.mem_cons_of_mem _ a,b⟩,fun ⟨a,b⟩=>⟨?_,b⟩⟩
    rcases List.mem_cons.1 a with e | e
    ·subst e; omega
    ·exact e
   ·by_cases hxr:x∈r
    ·exact i3 x ⟨hxr,hf⟩
    ·rw [i4 x (fun q=>hxr q.1)]
     rcases List.mem_cons.1 hx with e | e
     ·subst e; exact updN_same _ _ _
     ·exact absurd e hxr
   ·rw [i4 x (fun q=>hx ⟨List.mem_cons_of_mem _ q.1,q.2⟩)]
    exact updN_other _ _ _ (fun e=>hx (by rw [e]; exact ⟨List.mem_cons_self,Nat.le_of_lt htv⟩))
theorem TInv.leaveC (h:TInv n adj S) {v:Nat} {r:List Nat} (hc:S.calls=v::r) (hi:S.idx v=(adj v).length) (hl:S.low v=S.found v) :
 TInv n adj { S with low:=lowS S.low v r,calls:=r,opn:=(closeS v S.opn S.part).1,part:=(closeS v S.opn S.part).2 }:=by
 have hvc:v∈S.calls:=by rw [hc]; exact List.mem_cons_self
 have hvo:=h.callsOpen v hvc
 have hsrt:=h.callsSorted
 rw [hc] at hsrt
 have hrl:∀ c∈r,S.found c<S.found v:=(List.pairwise_cons.1 hsrt).1
 have hsub:∀ c∈r,c∈S.calls:=fun c hm=>by rw [hc]; exact List.mem_cons_of_mem _ hm
 have hcs:∀ c∈S.calls,c=v∨c∈r:=fun c hm=>by rw [hc] at hm; exact List.mem_cons.1 hm
 have hlow:lowS S.low v r=S.low:=by
  cases r with
  | nil=>rfl
  | cons u r' =>
   have h1:=hrl u List.mem_cons_self
   have h2:=h.F u (hsub u List.mem_cons_self)
   show updN S.low u _=_
   rw [Nat.min_eq_left (by omega),updN_self]
 rw [hlow]
 obtain ⟨k1,k2,k3,k4⟩:=closeS_spec S.found v S.opn S.part h.opnSorted hvo
 generalize (closeS v S.opn S.part).1=O at *
 generalize (closeS v S.opn S.part).2=P at *
 have seg:∀ x,x∈S.opn→S.found v≤S.found x→Goes adj v x∧Goes adj x v:=fun x hx hf=>by
  refine ⟨h.A v hvc x hx hf,?_⟩
  obtain ⟨c,h1,h2,h3⟩:=h.B x hx
  rcases hcs c h1 with e | e
  ·rw [← e]; exact h3
  ·exact h3.trans (h.A c h1 v hvo (Nat.le_of_lt (hrl c e)))
 have old:∀ x,0≤S.part x→P x=S.part x:=fun x hx=>k4 x (fun q=>by have:=((h.opnIff x).1 q.1).2; omega)
 have new:∀ x,0≤P x→0≤S.part x∨(x∈S.opn∧S.found v≤S.found x):=fun x hx=>by
  by_cases q:x∈S.opn∧S.found v≤S.found x
  ·exact .inr q
  ·rw [k4 x q] at hx; exact .inl hx
 have C2:∀ x,0≤P x→∀ t∈adj x,0≤P t:=fun x hx t ht=>by
  rcases new x hx with hx | ⟨hxo,hxf⟩
  ·have:=h.C x hx t ht; rw [old t this]; exact this
  ·obtain ⟨j,hj⟩:=List.mem_iff_getElem?.1 ht
   have hjl:j<(adj x).length:=by
    by_cases q:j<(adj x).length
    ·exact q
    ·rw [List.getElem?_eq_none (by omega)] at hj; cases hj
   have hix:S.idx x=(adj x).length:=by
    by_cases e:x=v
    ·rw [e]; exact hi
    ·refine h.idxDone x hxo (fun hm=>?_)
     rcases hcs x hm with q | q
     ·exact e q
     ·have:=hrl x q; omega
   have hft:=h.D x hxo j (by omega) t hj
   by_cases hp:0≤S.part t
   ·rw [old t hp]; exact hp
   ·have hto:=(h.opnIff t).2 ⟨hft,by omega⟩
    have:=h.E x hxo j (by omega) t hto hj v hvc hxf (fun d hd _=>by
     rcases hcs d hd with e | e
     ·rw [e]; exact Nat.le_refl _
     ·exact Nat.le_of_lt (hrl d e))
    rw [k3 t ⟨hto,by omega⟩]; omega
 constructor
 case adjLt=>exact h.adjLt
 case seenLt=>exact h.seenLt
 case leTime=>exact h.leTime
 case count=>exact h.count
 case inj=>exact h.inj
 case opnIff =>
  intro x
  show x∈O↔S.found x≠0∧P x<0
  rw [k2 x]
  constructor
  ·rintro ⟨a,b⟩
   have:=(h.opnIff x).1 a
   rw [k4 x (fun q=>by omega)]; exact this
  ·rintro ⟨a,b⟩
   by_cases q:x∈S.opn∧S.found v≤S.found x
   ·rw [k3 x q] at b; omega
   ·rw [k4 x q] at b
    have:=(h.opnIff x).2 ⟨a,b⟩
    exact ⟨this,by have:¬ S.found v≤S.found x:=fun w=>q ⟨this,w⟩; omega⟩
 case opnSorted=>exact h.opnSorted.sublist k1
 case callsSorted=>exact (List.pairwise_cons.1 hsrt).2
 case callsOpen=>exact fun c hm=>(k2 c).2 ⟨h.callsOpen c (hsub c hm),hrl c hm⟩
 case idxLe=>exact fun x hx=>h.idxLe x ((k2 x).1 hx).1
 case idxDone =>
  intro x hx hx2
  refine h.idxDone x ((k2 x).1 hx).1 (fun hm=>?_)
  rcases hcs x hm with e | e
  ·have:=((k2 x).1 hx).2; subst e; omega
  ·exact hx2 e
 case partSeen =>
  intro x hx
  rcases new x hx with q | q
  ·exact h.partSeen x q
  ·exact ((h.opnIff x).1 q.1).1
 case partLow =>
  intro x
  show -1≤P x
  by_cases q:x∈S.opn∧S.found v≤S.found x
  ·rw [k3 x q]; omega
  ·rw [k4 x q]; exact h.partLow x
 case A=>exact fun c hm x hx hf=>h.A c (hsub c hm) x ((k2 x).1 hx).1 hf
 case B =>
  intro x hx
  have ⟨hx1,hx2⟩:=(k2 x).1 hx
  obtain ⟨c,h1,h2,h3⟩:=h.B x hx1
  rcases hcs c h1 with e | e
  ·subst e; omega
  ·exact ⟨c,e,h2,h3⟩
 case C=>exact C2
 case D=>exact fun x hx=>h.D x ((k2 x).1 hx).1
 case E =>
  intro x hx j hj t hto ht c hc2 hcx htop
  have ⟨hx1,hx2⟩:=(k2 x).1 hx
  refine h.E x hx1 j hj t ((k2 t).1 hto).1 ht c (hsub c hc2) hcx fun d hd hdx=>?_
  rcases hcs d hd with e | e
  ·subst e; omega
  ·exact htop d e hdx
 case F=>exact fun c hm=>h.F c (hsub c hm)
 case G =>
  intro c hm
  obtain ⟨z,h1,h2,h3⟩:=h.G c (hsub c hm)
  have:=h.F c (hsub c hm)
  have:=hrl c hm
  exact ⟨z,(k2 z).2 ⟨h1,by omega⟩,h2,h3⟩
 case P1 =>
  intro x hx
  rcases new x hx with q | q
  ·obtain ⟨p,a,b,c,d⟩:=h.P1 x q
   exact ⟨p,by show P x=_; rw [old x q]; exact a,by show 0≤P p; rw [old _ b]; exact b,c,d⟩
  ·have:=seg x q.1 q.2
   exact ⟨v,k3 x q,by show 0≤P v; rw [k3 v ⟨hvo,Nat.le_refl _⟩]; omega,this.2,this.1⟩
 case P2 =>
  intro x y hx hy hxy hyx
  show P x=P y
  rcases new x hx with q | q<;>rcases new y hy with q' | q'
  ·rw [old x q,old y q']; exact h.P2 x y q q' hxy hyx
  ·have:=Goes.closed (P:=fun z=>0≤S.part z) h.C hxy q
   have:=((h.opnIff y).1 q'.1).2; omega
  ·have:=Goes.closed (P:=fun z=>0≤S.part z) h.C hyx q'
   have:=((h.opnIff x).1 q.1).2; omega
  ·rw [k3 x q,k3 y q']
theorem TInv.leave (h:TInv n adj S) {v:Nat} {r:List Nat} (hc:S.calls=v::r) (hi:S.idx v=(adj v).length):TInv n adj (leaveS S v r):=by
 unfold leaveS
 rw [h.low_eq hc]
 split
 ·next q=>exact h.leaveC hc hi q
 ·next q=>exact h.leaveN hc hi q
theorem TInv.idx_get (h:TInv n adj S) {v:Nat} {r:List Nat} (hc:S.calls=v::r) (hi:S.idx v≠(adj v).length) :
 S.idx v<(adj v).length∧(adj v)[S.idx v]?=some ((adj v).getD (S.idx v) 0)∧(adj v).getD (S.idx v) 0<n:=by
 have hvc:v∈S.calls:=by rw [hc]; exact List.mem_cons_self
 have hvo:=h.callsOpen v hvc
 have h1:S.idx v<(adj v).length:=by have:=h.idxLe v hvo; omega
 have h2:(adj v)[S.idx v]?=some ((adj v).getD (S.idx v) 0):=by simp [List.getD,List.getElem?_eq_getElem h1]
 exact ⟨h1,h2,h.adjLt v (h.seenLt v (h.callsSeen hvc).1) _ (List.mem_of_getElem? h2)⟩
theorem TInv.step (h:TInv n adj S):TInv n adj (stepS adj S):=by
 cases hc:S.calls with
 | nil=>rw [stepS_nil hc]; exact h
 | cons v r =>
  rw [stepS_cons hc]
  by_cases hi:S.idx v=(adj v).length
  ·rw [if_pos hi]; exact h.leave hc hi
  ·rw [if_neg hi]
   obtain ⟨_,h2,_⟩:=h.idx_get hc hi
   by_cases hf:S.found ((adj v).getD (S.idx v) 0)=0
   ·rw [if_pos hf]; exact h.enterEdge hc h2 hf
   ·rw [if_neg hf]
    by_cases hp:S.part ((adj v).getD (S.idx v) 0)<0
    ·rw [if_pos hp]
     refine h.edge hc h2 hf (updN S.low v (min (S.low v) (S.found ((adj v).getD (S.idx v) 0)))) (fun c (hcv:c≠v)=>updN_other S.low v _ hcv) ?_ (fun _=>?_) ?_
     ·rw [updN_same]; omega
     ·rw [updN_same]; omega
     ·rw [updN_same]
      by_cases q:S.low v≤S.found ((adj v).getD (S.idx v) 0)
      ·exact .inl (Nat.min_eq_left q)
      ·exact .inr ⟨hp,Nat.min_eq_right (by omega)⟩
    ·rw [if_neg hp]
     exact h.edge hc h2 hf S.low (fun _ _=>rfl) (Nat.le_refl _) (fun q=>absurd q hp) (.inl rfl)
theorem sorted_len (found:Nat→Nat):∀ (l:List Nat) (b:Nat),l.Pairwise (fun a b=>found b<found a)→(∀ x∈l,found x≠0∧found x≤b)→l.length≤b
 | [],b,_,_=>Nat.zero_le b
 | a::l,b,hs,hb=>by
  have ⟨h1,h2⟩:=List.pairwise_cons.1 hs
  have ha:=hb a List.mem_cons_self
  have:=sorted_len found l (found a-1) h2 (fun x hx=>⟨(hb x (List.mem_cons_of_mem _ hx)).1,by have:=h1 x hx; omega⟩)
  simp only [List.length_cons]; omega
theorem TInv.time_le (h:TInv n adj S):S.time≤n:=by have:=h.count; omega
theorem TInv.calls_len (h:TInv n adj S):S.calls.length≤n :=
 Nat.le_trans (sorted_len S.found S.calls S.time h.callsSorted (fun x hx=>⟨(h.callsSeen hx).1,h.leTime x⟩)) h.time_le
theorem TInv.opn_len (h:TInv n adj S):S.opn.length≤n :=
 Nat.le_trans (sorted_len S.found S.opn S.time h.opnSorted (fun x hx=>⟨((h.opnIff x).1 hx).1,h.leTime x⟩)) h.time_le
def phi (n:Nat) (adj:Nat→List Nat) (S:TS):Nat :=
 (S.calls.map fun v=>1+((adj v).length-S.idx v)).sum+wsum (fun v=>2+(adj v).length) S.found n
theorem phi_calls (adj:Nat→List Nat) (l:List Nat) (f g:Nat→Nat) (h:∀ v∈l,f v=g v) :
 (l.map fun v=>1+((adj v).length-f v)).sum=(l.map fun v=>1+((adj v).length-g v)).sum:=by
 congr 1
 exact List.map_congr_left fun v hv=>by rw [h v hv]
theorem TInv.phi_step (h:TInv n adj S) {v:Nat} {r:List Nat} (hc:S.calls=v::r):phi n adj (stepS adj S)<phi n adj S:=by
 have hsrt:=h.callsSorted
 rw [hc] at hsrt
 have hnd:∀ c∈r,c≠v:=fun c hm e=>by have:=(List.pairwise_cons.1 hsrt).1 c hm; subst e; omega
 have hbase:phi n adj S=(1+((adj v).length-S.idx v))+(r.map fun v=>1+((adj v).length-S.idx v)).sum+wsum (fun v=>2+(adj v).length) S.found n:=by
  unfold phi; rw [hc]; simp
 have hbump:∀ lo,phi n adj { S with idx:=updN S.idx v (S.idx v+1),low:=lo }=(1+((adj v).length-(S.idx v+1)))+(r.map fun v=>1+((adj v).length-S.idx v)).sum+wsum (fun v=>2+(adj v).length) S.found n:=fun lo=>by
  unfold phi; rw [hc]; simp only [List.map_cons,List.sum_cons,updN_same]
  rw [phi_calls adj r _ S.idx (fun c hm=>updN_other _ _ _ (hnd c hm))]
 rw [stepS_cons hc]
 by_cases hi:S.idx v=(adj v).length
 ·rw [if_pos hi,hbase]
  unfold leaveS
  split<;>· unfold phi; dsimp only; omega
 ·rw [if_neg hi]
  obtain ⟨h1,h2,h3⟩:=h.idx_get hc hi
  by_cases hf:S.found ((adj v).getD (S.idx v) 0)=0
  ·rw [if_pos hf,hbase]
   generalize (adj v).getD (S.idx v) 0=t at *
   have hw:=wsum_upd (fun v=>2+(adj v).length) S.found t (S.time+1) (by omega) hf n
   rw [if_pos h3] at hw
   have htc:∀ c∈S.calls,c≠t:=fun c hm e=>by have:=(h.callsSeen hm).1; rw [e] at this; exact this hf
   unfold phi enterS
   dsimp only
   rw [hc]
   simp only [List.map_cons,List.sum_cons,updN_same]
   rw [phi_calls adj r _ S.idx (fun c hm=>by rw [updN_other _ _ _ (htc c (by rw [hc]; exact List.mem_cons_of_mem _ hm)),updN_other _ _ _ (hnd c hm)]),
    updN_other _ _ _ (htc v (by rw [hc]; exact List.mem_cons_self)),updN_same]
   omega
  ·rw [if_neg hf]
   by_cases hp:S.part ((adj v).getD (S.idx v) 0)<0
   ·rw [if_pos hp,hbase]; have:=hbump (updN S.low v (min (S.low v) (S.found ((adj v).getD (S.idx v) 0)))); omega
   ·rw [if_neg hp,hbase]; have:=hbump S.low; have e:({ S with idx:=updN S.idx v (S.idx v+1),low:=S.low }:TS)={ S with idx:=updN S.idx v (S.idx v+1) }:=rfl
    rw [e] at this; omega
def initS:TS:=⟨0,fun _=>0,fun _=>0,fun _=>0,[],fun _=>-1,[]⟩
theorem wsum_white (n:Nat):wsum (fun _=>1) (fun _=>0) n=n:=by
 induction n with
 | zero=>rfl
 | succ n ih=>simp [wsum,ih]
theorem TInv.init (n:Nat) (adj:Nat→List Nat) (ha:∀ v,v<n→∀ t∈adj v,t<n):TInv n adj initS:=by
 constructor
 case adjLt=>exact ha
 case count=>simp [initS,wsum_white]
 case C=>intro x hx; simp [initS] at hx
 case P1=>intro x hx; simp [initS] at hx
 case P2=>intro x y hx; simp [initS] at hx
 all_goals simp [initS]
def iterS (adj:Nat→List Nat):Nat→TS→TS
 | 0,S=>S
 | k+1,S=>iterS adj k (stepS adj S)
theorem iterS_succ (adj:Nat→List Nat) (k:Nat):∀ S,iterS adj (k+1) S=stepS adj (iterS adj k S):=by
 induction k with
 | zero=>intro S; rfl
 | succ k ih=>intro S; show iterS adj (k+1) (stepS adj S)=_; rw [ih]; rfl
theorem TInv.iter (h:TInv n adj S) (k:Nat):TInv n adj (iterS adj k S):=by
 induction k with
 | zero=>exact h
 | succ k ih=>rw [iterS_succ]; exact ih.step
theorem keepsS (adj:Nat→List Nat) (S:TS) {x:Nat} (hx:S.found x≠0):(stepS adj S).found x=S.found x:=by
 cases hc:S.calls with
 | nil=>rw [stepS_nil hc]
 | cons v r =>
  rw [stepS_cons hc]
  split
  ·unfold leaveS; split<;>rfl
  ·split
   ·next hf=>exact updN_other _ _ _ (fun e=>by rw [e] at hx; exact hx hf)
   ·split<;>rfl
theorem TInv.done (h:TInv n adj S) (hc:S.calls=[]) (hall:∀ v,v<n→S.found v≠0) :
 (∀ v,v<n→0≤S.part v)∧∀ x y,x<n→y<n→(S.part x=S.part y↔Goes adj x y∧Goes adj y x):=by
 have hp:∀ v,v<n→0≤S.part v:=fun v hv=>by
  by_cases q:S.part v<0
  ·have:=(h.opnIff v).2 ⟨hall v hv,q⟩; rw [h.opn_nil hc] at this; cases this
  ·omega
 refine ⟨hp,fun x y hx hy=>⟨fun e=>?_,fun ⟨a,b⟩=>h.P2 x y (hp x hx) (hp y hy) a b⟩⟩
 obtain ⟨p,p1,_,p2,p3⟩:=h.P1 x (hp x hx)
 obtain ⟨q,q1,_,q2,q3⟩:=h.P1 y (hp y hy)
 have:p=q:=by omega
 subst this
 exact ⟨p2.trans q3,q2.trans p3⟩
def sPairs:ByteArray:=⟨#[112,97,105,114,115]⟩
def toN (K N u s:Nat):Nat:=(u*K+s)%N
def labN (K:Nat) (T:List Int) (u s:Nat):Int:=T.getD (u*K+s) 0
def rawT (K N:Nat) (T:List Int) (u v s t:Nat):List Nat:=if labN K T u s=labN K T v t then [toN K N u s*N+toN K N v t] else []
def rawS (K N:Nat) (T:List Int) (u v s n:Nat):List Nat:=(List.range n).flatMap fun t=>rawT K N T u v s t
def rawP (K N:Nat) (T:List Int) (u v n:Nat):List Nat:=(List.range n).flatMap fun s=>rawS K N T u v s K
theorem rawS_succ (K N:Nat) (T:List Int) (u v s n:Nat):rawS K N T u v s (n+1)=rawS K N T u v s n++rawT K N T u v s n:=by
 simp [rawS,List.range_succ]
theorem rawP_succ (K N:Nat) (T:List Int) (u v n:Nat):rawP K N T u v (n+1)=rawP K N T u v n++rawS K N T u v n K:=by
 simp [rawP,List.range_succ]
theorem rawT_len (K N:Nat) (T:List Int) (u v s t:Nat):(rawT K N T u v s t).length≤1:=by unfold rawT; split<;>simp
theorem rawS_len (K N:Nat) (T:List Int) (u v s n:Nat):(rawS K N T u v s n).length≤n:=by
 induction n with
 | zero=>simp [rawS]
 | succ n ih=>rw [rawS_succ,List.length_append]; have:=rawT_len K N T u v s n; omega
theorem rawP_len (K N:Nat) (T:List Int) (u v n:Nat):(rawP K N T u v n).length≤n*K:=by
 induction n with
 | zero=>simp [rawP]
 | succ n ih=>rw [rawP_succ,List.length_append,Nat.add_mul]; have:=rawS_len K N T u v n K; omega
def Arr (K N:Nat) (T:List Int) (u v q:Nat):Prop:=∃ s t,s<K∧t<K∧labN K T u s=labN K T v t∧q=toN K N u s*N+toN K N v t
theorem mem_rawP {K N:Nat} {T:List Int} {u v q:Nat}:q∈rawP K N T u v K↔Arr K N T u v q:=by
 unfold rawP rawS rawT Arr
 simp only [List.mem_flatMap,List.mem_range]
 constructor
 ·rintro ⟨s,hs,t,ht,h⟩
  split at h
  ·rename_i e
   exact ⟨s,t,hs,ht,e,by simpa using h⟩
  ·cases h
 ·rintro ⟨s,t,hs,ht,e,h⟩
  exact ⟨s,hs,t,ht,by rw [if_pos e]; simpa using h⟩
theorem toN_lt {K N u s:Nat} (hN:0<N):toN K N u s<N:=Nat.mod_lt _ hN
theorem pair_lt {N a b:Nat} (ha:a<N) (hb:b<N):a*N+b<N*N:=by
 have:=Nat.mul_le_mul_right N (show a+1≤N by omega)
 rw [Nat.add_mul] at this; omega
theorem pair_div {N a b:Nat} (hb:b<N):(a*N+b)/N=a:=div_mk hb
theorem pair_mod {N a b:Nat} (hb:b<N):(a*N+b)%N=b:=mod_mk hb
theorem pair_eq (p N:Nat):p/N*N+p%N=p:=by rw [Nat.mul_comm]; exact Nat.div_add_mod p N
theorem div_lt_of {p N:Nat} (h:p<N*N):p/N<N:=Nat.div_lt_of_lt_mul h
theorem Arr.lt {K N:Nat} {T:List Int} {u v q:Nat} (hN:0<N) (h:Arr K N T u v q):q<N*N:=by
 obtain ⟨s,t,_,_,_,rfl⟩:=h
 exact pair_lt (toN_lt hN) (toN_lt hN)
def pairL (K N:Nat) (T:List Int) (p:Nat):List Nat:=(List.range (N*N)).filter fun q=>decide (q∈rawP K N T (p/N) (p%N) K)
theorem pairL_sorted (K N:Nat) (T:List Int) (p:Nat):(pairL K N T p).Pairwise (·<·):=List.Pairwise.filter _ List.pairwise_lt_range
theorem mem_pairL {K N:Nat} {T:List Int} {p q:Nat} (hN:0<N):q∈pairL K N T p↔Arr K N T (p/N) (p%N) q:=by
 unfold pairL
 rw [List.mem_filter,List.mem_range,decide_eq_true_iff,mem_rawP]
 exact ⟨fun h=>h.2,fun h=>⟨h.lt hN,h⟩⟩
theorem nodup_sub {α:Type} [DecidableEq α]:∀ {l m:List α},l.Nodup→l ⊆ m→l.length≤m.length
 | [],_,_,_=>by simp
 | a::l,m,hn,hs=>by
  obtain ⟨h1,h2⟩:=List.nodup_cons.1 hn
  have ha:=hs List.mem_cons_self
  have:=nodup_sub (l:=l) (m:=m.erase a) h2 (fun b hb=>(List.mem_erase_of_ne (fun e=>h1 (by rw [← e]; exact hb))).2 (hs (List.mem_cons_of_mem _ hb)))
  have hl:=List.length_erase_of_mem ha
  have:=List.length_pos_of_mem ha
  simp only [List.length_cons]; omega
theorem pairL_len (K N:Nat) (T:List Int) (p:Nat):(pairL K N T p).length≤K*K:=by
 have hn:(pairL K N T p).Nodup:=(pairL_sorted K N T p).imp (fun h=>Nat.ne_of_lt h)
 have hs:pairL K N T p ⊆ rawP K N T (p/N) (p%N) K:=fun q hq=>by
  unfold pairL at hq
  simpa using (List.mem_filter.1 hq).2
 exact Nat.le_trans (nodup_sub hn hs) (rawP_len ..)
def nodeAt (K m:Nat) (x:List Int) (i:Nat):Nat:=numW K ((x.drop i).take m)
theorem win_snoc {x:List Int} {i m:Nat} (h:i+m<x.length):(x.drop i).take (m+1)=(x.drop i).take m++[x.getD (i+m) 0]:=by
 rw [List.take_add_one,List.getElem?_drop]
 simp [List.getD,h]
theorem win_cons {x:List Int} {i m:Nat}:((x.drop i).take (m+1)).drop 1=(x.drop (i+1)).take m:=by
 rw [List.drop_take]; simp
theorem syms_drop {K:Int} {x:List Int} (h:Syms K x) (i:Nat):Syms K (x.drop i):=fun y hy=>h y (List.mem_of_mem_drop hy)
theorem syms_take {K:Int} {x:List Int} (h:Syms K x) (i:Nat):Syms K (x.take i):=fun y hy=>h y (List.mem_of_mem_take hy)
theorem syms_at {K:Nat} {x:List Int} (h:Syms K x) {i:Nat} (hi:i<x.length):0≤x.getD i 0∧x.getD i 0<K∧(x.getD i 0).toNat<K:=by
 have:=h (x[i]) (List.getElem_mem hi)
 simp only [List.getD_eq_getElem?_getD,List.getElem?_eq_getElem hi,Option.getD_some]
 omega
theorem win_num {K m:Nat} {x:List Int} {i:Nat} (h:i+m<x.length):numW K ((x.drop i).take (m+1))=nodeAt K m x i*K+(x.getD (i+m) 0).toNat:=by
 rw [win_snoc h,numW_snoc]; rfl
theorem node_lt {K m:Nat} {x:List Int} (hx:Syms K x) {i:Nat} (h:i+m≤x.length):nodeAt K m x i<pw K m:=by
 have:=numW_lt _ (syms_take (syms_drop hx i) m)
 rwa [show ((x.drop i).take m).length=m by simp; omega] at this
theorem node_next {K m:Nat} {x:List Int} (hx:Syms K x) {i:Nat} (h:i+m<x.length):nodeAt K m x (i+1)=toN K (pw K m) (nodeAt K m x i) (x.getD (i+m) 0).toNat:=by
 have hl:((x.drop i).take m).length=m:=by simp; omega
 have hs:Syms K ((x.drop i).take m++[x.getD (i+m) 0]):=by rw [← win_snoc h]; exact syms_take (syms_drop hx i) _
 have:=num_shift hs
 rw [← win_snoc h,win_cons,hl,win_num h] at this
 exact this
theorem img_at {K R:Nat} {T x:List Int} {i:Nat} (h:i+2*R<x.length):(imgP K R T x).getD i 0=labN K T (nodeAt K (2*R) x i) (x.getD (i+2*R) 0).toNat:=by
 rw [imgP_getD _ _ _ _ _ (by omega),win_num h]; rfl
theorem img_eq {K R:Nat} {T x y:List Int} (hl:x.length=y.length):imgP K R T x=imgP K R T y ↔
 ∀ i,i+2*R<x.length→labN K T (nodeAt K (2*R) x i) (x.getD (i+2*R) 0).toNat=labN K T (nodeAt K (2*R) y i) (y.getD (i+2*R) 0).toNat:=by
 constructor
 ·intro h i hi
  rw [← img_at hi,← img_at (by omega),h]
 ·intro h
  refine List.ext_getElem (by rw [imgP_length,imgP_length,hl]) fun i h1 h2=>?_
  rw [imgP_length] at h1 h2
  have:=h i (by omega)
  rw [← img_at (by omega),← img_at (by omega)] at this
  simpa [List.getD_eq_getElem?_getD,imgP_length,h1,h2] using this
theorem wayW_arr {K R:Nat} {T x y:List Int} (hx:Syms K x) (hy:Syms K y) (hl:x.length=y.length) (he:imgP K R T x=imgP K R T y) {i:Nat} (hi:i+2*R<x.length) :
 Arr K (pw K (2*R)) T (nodeAt K (2*R) x i) (nodeAt K (2*R) y i) (nodeAt K (2*R) x (i+1)*pw K (2*R)+nodeAt K (2*R) y (i+1)) :=
 ⟨_,_,(syms_at hx hi).2.2,(syms_at hy (by omega)).2.2,(img_eq hl).1 he i hi,by rw [node_next hx hi,node_next hy (by omega)]⟩
def StepFits (K N:Nat) (T:List Int) (p q:Nat):Prop :=
 toN K N (p/N) (q/N%K)=q/N∧toN K N (p%N) (q%N%K)=q%N∧labN K T (p/N) (q/N%K)=labN K T (p%N) (q%N%K)
instance (K N:Nat) (T:List Int) (p q:Nat):Decidable (StepFits K N T p q):=by unfold StepFits; exact inferInstance
theorem toN_mod {K R u s:Nat} (_hK:1≤K) (hR:1≤R) (hs:s<K):toN K (pw K (2*R)) u s%K=s:=by
 unfold toN
 have:K ∣ pw K (2*R):=⟨pw K (2*R-1),by rw [Nat.mul_comm K,← pw_succ]; congr 1; omega⟩
 rw [Nat.mod_mod_of_dvd _ this,mod_mk hs]
theorem fits_iff {K R:Nat} {T:List Int} {p q:Nat} (hK:1≤K) (hR:1≤R) (hq:q<pw K (2*R)*pw K (2*R)) :
 StepFits K (pw K (2*R)) T p q↔Arr K (pw K (2*R)) T (p/pw K (2*R)) (p%pw K (2*R)) q:=by
 have hN:=pw_pos (K:=K) (2*R) hK
 constructor
 ·rintro ⟨h1,h2,h3⟩
  exact ⟨_,_,Nat.mod_lt _ (by omega),Nat.mod_lt _ (by omega),h3,by rw [h1,h2,pair_eq]⟩
 ·rintro ⟨s,t,hs,ht,e,rfl⟩
  unfold StepFits
  rw [pair_div (toN_lt (by omega)),pair_mod (toN_lt (by omega)),toN_mod hK hR hs,toN_mod hK hR ht]
  exact ⟨rfl,rfl,e⟩
def alongW (K m:Nat) (F:Nat→Nat) (way:List Nat):List Int:=digs K m (F (way.getD 0 0))++(way.drop 1).map fun p=>((F p%K:Nat):Int)
theorem alongW_len (K m:Nat) (F:Nat→Nat) (way:List Nat):(alongW K m F way).length=m+(way.length-1):=by simp [alongW,digs_length]
theorem alongW_syms {K m:Nat} (hK:1≤K) (F:Nat→Nat) (way:List Nat):Syms K (alongW K m F way):=by
 intro y hy
 rcases List.mem_append.1 hy with hy | hy
 ·exact digs_syms hK _ _ y hy
 ·obtain ⟨p,_,rfl⟩:=List.mem_map.1 hy
  have:=Nat.mod_lt (F p) (show 0<K by omega); omega
theorem alongW_get {K m:Nat} {F:Nat→Nat} {way:List Nat} {i:Nat} (h:i+1<way.length):(alongW K m F way).getD (i+m) 0=((F (way.getD (i+1) 0)%K:Nat):Int):=by
 unfold alongW
 rw [List.getD_eq_getElem?_getD,List.getElem?_append_right (by rw [digs_length]; omega),digs_length,Nat.add_sub_cancel,List.getElem?_map,List.getElem?_drop,Nat.add_comm 1 i]
 rw [List.getElem?_eq_getElem h]
 simp [List.getD,h]
theorem along_node {K m:Nat} (hK:1≤K) {F:Nat→Nat} {way:List Nat} (h0:F (way.getD 0 0)<pw K m) (hs:∀ i,i+1<way.length→toN K (pw K m) (F (way.getD i 0)) (F (way.getD (i+1) 0)%K)=F (way.getD (i+1) 0)) :
 ∀ i,i<way.length→nodeAt K m (alongW K m F way) i=F (way.getD i 0)
 | 0,_=>by
  unfold nodeAt alongW
  rw [List.drop_zero,List.take_append_of_le_length (by rw [digs_length]; omega),List.take_of_length_le (by rw [digs_length]; omega),numW_digs hK _ _ h0]
 | i+1,hi=>by
  have ih:=along_node hK h0 hs i (by omega)
  rw [node_next (alongW_syms hK F way) (by rw [alongW_len]; omega),ih,alongW_get hi,Int.toNat_natCast]
  exact hs i hi
theorem along_word {K R:Nat} (hK:1≤K) (hR:1≤R) {F:Nat→Nat} {x:List Int} (hx:Syms K x) (hl:2*R≤x.length) {way:List Nat} (hw:way.length=x.length-2*R+1)
 (hF:∀ i,i<way.length→F (way.getD i 0)=nodeAt K (2*R) x i):alongW K (2*R) F way=x:=by
 have hN:=pw_pos (K:=K) (2*R) hK
 refine List.ext_getElem (by rw [alongW_len]; omega) fun i h1 h2=>?_
 by_cases hi:i<2*R
 ·have e:digs K (2*R) (F (way.getD 0 0))=x.take (2*R):=by
   rw [hF 0 (by omega)]
   have:=digs_numW hK (x.take (2*R)) (syms_take hx _)
   rw [show (x.take (2*R)).length=2*R by simp; omega] at this
   simpa [nodeAt] using this
  simp only [alongW,e]
  rw [List.getElem_append_left (by simp; omega),List.getElem_take]
 ·obtain ⟨j,rfl⟩:∃ j,i=j+2*R:=⟨i-2*R,by omega⟩
  have hj:j+1<way.length:=by omega
  have:=alongW_get (K:=K) (m:=2*R) (F:=F) hj
  rw [hF (j+1) hj,node_next hx (by omega),toN_mod hK hR (syms_at hx (by omega)).2.2] at this
  simp only [List.getD_eq_getElem?_getD,List.getElem?_eq_getElem h1,List.getElem?_eq_getElem h2,Option.getD_some] at this
  rw [this]
  have:=(hx (x[j+2*R]) (List.getElem_mem _)).1
  omega
end Go.Proofs.YtindfaehjoileaaGreatDoor
