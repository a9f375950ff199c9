/-
  Texts that the proof leans on.
-/
import Derived.Test.YtncpnaoabkjegaaGreatDoorMLt2
import Derived.LaidEql
import Derived.Stop.Asserts
import Derived.RowKitTokens
import Derived.Deep.RegionHeld3
import Derived.Maps.OwnSet
import Derived.StringKeys
import Derived.Laws.Bits64b
import Derived.StillTail
namespace Go.Proofs.YtncpnaoabkjegaaGreatDoor
open Go.RowKit Go.Extern.Stop Go.Stop Go.Extern
set_option maxRecDepth 100000
set_option maxHeartbeats 8000000
namespace Errs
theorem as_hit (e t:Addr) (old:Value) (w:World) (hg:w.cell? ⟨2,0,none⟩=some (.iface 239 (.agg #[.pointer (some ⟨17,27,none⟩)]))) (ht0:w.cell? t=some old) (hf0:w.frozen? t=false) :
 Calls Tryz.prog 48 #[.iface 119 (.pointer (some e)),.iface 120 (.pointer (some t))] w fun ev w'=>ev=.returned (.bool true)∧w'=((((w.alloc (.cells #[.pointer (some t)] 120)).alloc (.cells #[.pointer (some ⟨17,120,none⟩),.pointer (some ⟨w.heap.size,0,none⟩),.int .u64 150] 156)).alloc (.cells #[.pointer (some ⟨17,120,none⟩),.pointer (some ⟨w.heap.size,0,none⟩),.int .u64 150] 156)).alloc (.cells #[.pointer (some e)] 119)).setCell t (.pointer (some e)):=by
 have h6:=@run_callFunc_extern Tryz.prog 107 _ (fun args=>ReflectliteValue.unpack (args.getD 0 (.tuple #[]))) Tryz.func107 (by kernel_rfl) (by kernel_rfl) (by kernel_rfl) (by kernel_rfl)
 have h7 := @run_callFunc_extern Tryz.prog 108 _ (ReflectliteValue.methodAny (ReflectliteValue.valueError "reflectlite.Value.Type" 0) (fun t _ _ _ => ReflectliteType.toType t)) Tryz.func108 (by kernel_rfl) (by kernel_rfl) (by kernel_rfl) (by kernel_rfl)
 have h8 := @run_callFunc_extern Tryz.prog 109 _ (ReflectliteValue.method (ReflectliteValue.valueError "reflectlite.Value.IsNil" 0) ReflectliteValue.isNil) Tryz.func109 (by kernel_rfl) (by kernel_rfl) (by kernel_rfl) (by kernel_rfl)
 have h27:=@run_callFunc_extern Tryz.prog 276 _ (ReflectliteType.abiMethod fun t=>do pure (.int .u8 (← Rtype.kind t))) Tryz.func276 (by kernel_rfl) (by kernel_rfl) (by kernel_rfl) (by kernel_rfl)
 have h37:=@run_callFunc_extern Tryz.prog 289 _ (ReflectliteType.method ReflectliteType.elem) Tryz.func289 (by kernel_rfl) (by kernel_rfl) (by kernel_rfl) (by kernel_rfl)
 have h38 := @run_callFunc_extern Tryz.prog 290 _ (ReflectliteType.relation "Implements" ReflectliteType.implements_) Tryz.func290 (by kernel_rfl) (by kernel_rfl) (by kernel_rfl) (by kernel_rfl)
 have h10:=@run_callFunc_extern Tryz.prog 137 _ ReflectliteType.typeOf Tryz.func137 (by kernel_rfl) (by kernel_rfl) (by kernel_rfl) (by kernel_rfl)
 have h35 := @run_callFunc_extern Tryz.prog 287 _ (ReflectliteType.relation "AssignableTo" ReflectliteType.assignableTo) Tryz.func287 (by kernel_rfl) (by kernel_rfl) (by kernel_rfl) (by kernel_rfl)
 have h11 := @run_callFunc_extern Tryz.prog 178 _ (ReflectliteValue.method (ReflectliteValue.valueError "reflectlite.Value.Elem" 0) ReflectliteValue.elem) Tryz.func178 (by kernel_rfl) (by kernel_rfl) (by kernel_rfl) (by kernel_rfl)
 have h12:=@run_callFunc_extern Tryz.prog 179 _ ReflectliteValue.set Tryz.func179 (by kernel_rfl) (by kernel_rfl) (by kernel_rfl) (by kernel_rfl)
 have tO:=typeOfF
 have mA:=methodAssignableTo
 have aF:=assignableF
 have vF:=valueOfF
 have f6:=valueOfFF
 have f7:=typeFF
 have mK:=methodKind
 have mE:=methodElem
 have mI:=methodImplements
 have kFF:=kindFF
 have kF:=kindF
 have eFF:=elemFF
 have iF:=implementsF
 have n8:=isNilFF ⟨w.heap.size,0,none⟩ t ((w.alloc (.cells #[.pointer (some t)] 120)).alloc (.cells #[.pointer (some ⟨17,120,none⟩),.pointer (some ⟨w.heap.size,0,none⟩),.int .u64 150] 156)) (by simp)
 have hlt:2<w.heap.size:=World.block_lt_of_cell? _ _ hg
 have hg2:((w.alloc (.cells #[.pointer (some t)] 120)).alloc (.cells #[.pointer (some ⟨17,120,none⟩),.pointer (some ⟨w.heap.size,0,none⟩),.int .u64 150] 156)).cell? ⟨2,0,none⟩=some (.iface 239 (.agg #[.pointer (some ⟨17,27,none⟩)])):=by
  rw [World.cell?_alloc_lt _ _ ⟨2,0,none⟩ (by simp; omega),World.cell?_alloc_lt _ _ ⟨2,0,none⟩ hlt]; exact hg
 have htl:t.block<w.heap.size:=World.block_lt_of_cell? _ _ ht0
 have el:=elemVFF ⟨w.heap.size,0,none⟩ t (((w.alloc (.cells #[.pointer (some t)] 120)).alloc (.cells #[.pointer (some ⟨17,120,none⟩),.pointer (some ⟨w.heap.size,0,none⟩),.int .u64 150] 156)).alloc (.cells #[.pointer (some ⟨17,120,none⟩),.pointer (some ⟨w.heap.size,0,none⟩),.int .u64 150] 156)) (by rw [World.cell?_alloc_lt _ _ ⟨w.heap.size,0,none⟩ (by simp; omega)]; simp)
 have st:=setF t ⟨w.heap.size+1+1+1,0,none⟩ e old ((((w.alloc (.cells #[.pointer (some t)] 120)).alloc (.cells #[.pointer (some ⟨17,120,none⟩),.pointer (some ⟨w.heap.size,0,none⟩),.int .u64 150] 156)).alloc (.cells #[.pointer (some ⟨17,120,none⟩),.pointer (some ⟨w.heap.size,0,none⟩),.int .u64 150] 156)).alloc (.cells #[.pointer (some e)] 119))
  (by rw [World.cell?_alloc_at _ _ _ _ (by simp)]; rfl)
  (by rw [World.cell?_alloc_lt _ _ t (by simp; omega),World.cell?_alloc_lt _ _ t (by simp; omega),World.cell?_alloc_lt _ _ t (by simp; omega),World.cell?_alloc_lt _ _ t htl]; exact ht0)
  (by rw [World.frozen?_alloc_old _ _ t (by simp; omega),World.frozen?_alloc_old _ _ t (by simp; omega),World.frozen?_alloc_old _ _ t (by simp; omega),World.frozen?_alloc_old _ _ t (Nat.ne_of_lt htl)]; exact hf0)
 go_enter Tryz.func48,Tryz.ntmps48
 go_wp2
 refine wp_loop_rounds 1 ?_
 rw [rounds_succ]
 go_wp2
 go_ret
 exact ⟨rfl,rfl⟩
theorem as_any (e t:Addr) (old:Value) (w:World) (hg:w.cell? ⟨2,0,none⟩=some (.iface 239 (.agg #[.pointer (some ⟨17,27,none⟩)]))) (ht0:w.cell? t=some old) (hf0:w.frozen? t=false) :
 Calls Tryz.prog 48 #[.iface 119 (.pointer (some e)),.iface 120 (.pointer (some t))] w fun ev w'=>ev=.returned (.bool true)∧∃ w1,Below w.heap.size w w1∧w'=w1.setCell t (.pointer (some e)) :=
 (as_hit e t old w hg ht0 hf0).mono fun _ _ ⟨h1,h2⟩=>⟨h1,_,((((Below.refl _ _).alloc (Nat.le_refl _) _).alloc (by simp) _).alloc (by simp; omega) _).alloc (by simp; omega) _,h2⟩
end Errs
end Go.Proofs.YtncpnaoabkjegaaGreatDoor
namespace Go.Proofs.YtncpnaoabkjegaaGreatDoor
open Go.RowKit
set_option maxRecDepth 100000
def GlobE (w:World):Prop:=w.cell? ⟨2,0,none⟩=some (.iface 239 (.agg #[.pointer (some ⟨17,27,none⟩)]))
theorem GlobE.below {w w':World} (h:GlobE w) (hb:Below w.heap.size w w'):GlobE w':=cell_keep hb h
theorem takeD {P:Program} {ops:Array Oper} {Q:Exit→Act→World→Prop} {md:Region.Mode} {S:World→Prop} {i:Nat} {oi:Oper} {v:Value} {fuel:Nat} {listed:Array Bool} {a:Act} {w:World} (d:Option Tmp) (hi:ops[i]?=some oi) (hd:oi.dst=d)
 (hs:Region.noSelect ops=true) (hf:Region.free md ops listed i=true) (hr:(Region.ready md ops listed).contains i=true)
 (hQ:∀ c a w,Q (.panic c) (a.put d v) w→Q (.panic c) a w) (hy:YieldsIf P ops S oi v a) (hS:S w)
 (h:wpAnyH P md ops Q S fuel (listed.setIfInBounds i true) (a.put d v) w):wpAnyH P md ops Q S (fuel+1) listed a w:=by
 subst hd
 exact wpAnyH_take hi hs hf hr hQ hy hS h
theorem takeA {P:Program} {ops:Array Oper} {Q:Exit→Act→World→Prop} {md:Region.Mode} {i:Nat} {oi:Oper} {v:Value} {fuel:Nat} {listed:Array Bool} {a:Act} {w:World} (d:Option Tmp) (hi:ops[i]?=some oi) (hd:oi.dst=d)
 (hs:Region.noSelect ops=true) (hf:Region.free md ops listed i=true) (hr:(Region.ready md ops listed).contains i=true)
 (hQ:∀ c a w,Q (.panic c) (a.put d v) w→Q (.panic c) a w) (hy:Yields P ops oi v a)
 (h:wpAny P md ops Q fuel (listed.setIfInBounds i true) (a.put d v) w):wpAny P md ops Q (fuel+1) listed a w:=by
 subst hd
 exact wpAny_take hi hs hf hr hQ hy h
theorem pqD {P:Program} {ops:Array Oper} {Q:Exit→Act→World→Prop} {md:Region.Mode} {S:World→Prop} {oi:Oper} {v:Value} {fuel:Nat} {listed:Array Bool} {a a':Act} {w:World} (i:Nat) (d:Tmp) (hS:S w)
 (h:wpAnyH P md ops (NoPanic Q) S fuel (listed.setIfInBounds i true) a' w) (hi:ops[i]?=some oi:=by exact rfl) (hd:oi.dst=some d:=by exact rfl)
 (hs:Region.noSelect ops=true:=by kernel_rfl) (hf:Region.free md ops listed i=true:=by kernel_rfl) (hr:(Region.ready md ops listed).contains i=true:=by kernel_rfl)
 (hw:Region.wanted oi (yielded ops a.tmps)=true:=by rfl) (hy:∀ W,S W→(execOp a.eval oi).run P W=.ok (.value v) W:=by intro W' hs; (try subst hs); go_simp; (try with_reducible rfl)) (ha:a.put (some d) v=a':=by simp only [pq]; exact rfl) :
 wpAnyH P md ops (NoPanic Q) S (fuel+1) listed a w:=by
 subst ha; exact takeD (some d) hi hd hs hf hr (fun _ _ _ h=>h) (.inl ⟨hw,hy⟩) hS h
theorem pqA {P:Program} {ops:Array Oper} {Q:Exit→Act→World→Prop} {md:Region.Mode} {oi:Oper} {v:Value} {fuel:Nat} {listed:Array Bool} {a a':Act} {w:World} (i:Nat) (d:Tmp)
 (h:wpAny P md ops (NoPanic Q) fuel (listed.setIfInBounds i true) a' w) (hi:ops[i]?=some oi:=by exact rfl) (hd:oi.dst=some d:=by exact rfl)
 (hs:Region.noSelect ops=true:=by kernel_rfl) (hf:Region.free md ops listed i=true:=by kernel_rfl) (hr:(Region.ready md ops listed).contains i=true:=by kernel_rfl)
 (hw:Region.wanted oi (yielded ops a.tmps)=true:=by rfl) (hy:∀ W,(execOp a.eval oi).run P W=.ok (.value v) W:=by intro W'; go_simp; (try with_reducible rfl)) (ha:a.put (some d) v=a':=by simp only [pq]; exact rfl) :
 wpAny P md ops (NoPanic Q) (fuel+1) listed a w:=by
 subst ha; exact takeA (some d) hi hd hs hf hr (fun _ _ _ h=>h) (.inl ⟨hw,hy⟩) h
end Go.Proofs.YtncpnaoabkjegaaGreatDoor
namespace Go.Proofs.YtncpnaoabkjegaaGreatDoor
open Go.RowKit
set_option maxRecDepth 100000
theorem Box3.belowB {B:Nat} {w w':World} {b:Nat} {x0 x1 x2:Value} (h:Box3 w b x0 x1 x2) (hb:Below B w w') (hlt:b<B):Box3 w' b x0 x1 x2:=by
 obtain ⟨⟨h0,h1,h2⟩,f0,f1,f2⟩:=h
 exact ⟨⟨(hb.cell (p:=⟨b,0,none⟩) hlt).trans h0,(hb.cell (p:=⟨b,1,none⟩) hlt).trans h1,(hb.cell (p:=⟨b,2,none⟩) hlt).trans h2⟩,(hb.frozen (p:=⟨b,0,none⟩) hlt).trans f0,(hb.frozen (p:=⟨b,1,none⟩) hlt).trans f1,(hb.frozen (p:=⟨b,2,none⟩) hlt).trans f2⟩
theorem Box3.far {w:World} {b b':Nat} {x0 x1 x2:Value} (h:Box3 w b x0 x1 x2) (hne:b'≠b) (i:Nat) (u:Value):Box3 (w.setCell ⟨b',i,none⟩ u) b x0 x1 x2:=by
 obtain ⟨⟨h0,h1,h2⟩,f0,f1,f2⟩:=h
 refine ⟨⟨?_,?_,?_⟩,?_,?_,?_⟩
 ·rw [World.cell?_setCell_far _ _ _ _ hne]; exact h0
 ·rw [World.cell?_setCell_far _ _ _ _ hne]; exact h1
 ·rw [World.cell?_setCell_far _ _ _ _ hne]; exact h2
 ·simpa using f0
 ·simpa using f1
 ·simpa using f2
theorem LentI.setBelow {B:Nat} {w:World} {m:Value} {xs:List Int} (h:LentI B w m xs) {a:Addr} (ha:a.block<B) (u:Value):LentI B (w.setCell a u) m xs:=by
 obtain ⟨v,e,ho⟩:=h
 exact ⟨v,e,ho.setBelowBase ha u⟩
theorem LentI.mono {B B':Nat} {w:World} {m:Value} {xs:List Int} (h:LentI B w m xs) (hB:B'≤B):LentI B' w m xs:=by
 obtain ⟨v,e,ho⟩:=h
 exact ⟨v,e,ho.mono hB⟩
theorem cell_far {w:World} {b i:Nat} {a:Addr} (h:a.block≠b) (u:Value):(w.setCell ⟨b,i,none⟩ u).cell? a=w.cell? a :=
 World.cell?_setCell_other _ _ _ _ (by intro e; rw [← e] at h; exact h rfl)
theorem ErrAt.set {r:Nat→Addr} {w:World} {n:Int} {b i:Nat} (hs:∀ s,w.cell? ⟨b,0,none⟩≠some (.string s)) (u:Value) :
 ∀ {l:List (ByteArray×Int)} {v:Value},ErrAt r w n l v→ErrAt r (w.setCell ⟨b,i,none⟩ u) n l v
 | [],_,h=>h
 | (op,at_)::rest,v,⟨p,u',e,c0,c1,c2,h⟩=>by
  have hp:p≠b:=by rintro rfl; exact hs _ c0
  exact ⟨p,u',e,by rw [cell_far hp]; exact c0,by rw [cell_far hp]; exact c1,by rw [cell_far hp]; exact c2,ErrAt.set hs u h⟩
theorem ErrIs.set {r:Nat→Addr} {w:World} {t:PErr} {v:Value} {b i:Nat} (h:ErrIs r w t v) (hs:∀ s,w.cell? ⟨b,0,none⟩≠some (.string s)) (u:Value):ErrIs r (w.setCell ⟨b,i,none⟩ u) t v:=by
 match t,h with
 | none,h=>exact h
 | some (n,l),h=>exact ErrAt.set hs u h
theorem Rows.add2 {B:Nat} {w w':World} {f:Names} {i j:Nat×Nat} {r' s':Row} (h:Rows B w f) (hb:Below w.heap.size w w') (ho:r'.own B w') (hn:∀ k,r'.v.ownBlock=some k→w.heap.size≤k) (ho2:s'.own B w') (hn2:∀ k,s'.v.ownBlock=some k→w.heap.size≤k)
 (hne:r'.v.ownBlock=Option.none∨r'.v.ownBlock≠s'.v.ownBlock) (hij:i≠j):Rows B w' (upd (upd f i (some r')) j (some s')):=by
 have h1:=h.add (i:=i) hb ho hn
 have far:∀ k t,upd f i (some r') k=some t→k≠j→t.v.ownBlock=Option.none∨t.v.ownBlock≠s'.v.ownBlock:=fun k t hk hkj=>by
  by_cases e:k=i
  ·subst e
   rw [upd_same] at hk; cases hk
   exact hne
  ·rw [upd_ne _ _ e] at hk
   cases hs:t.v.ownBlock with
   | none=>exact .inl rfl
   | some m =>
    right; intro e2
    have:=hn2 m e2.symm
    have:=(h.lt hk m hs).2
    omega
 refine ⟨fun k t hk=>?_,fun k l s t hk hl hkl=>?_⟩
 ·by_cases e:k=j
  ·subst e; rw [upd_same] at hk; cases hk; exact ho2
  ·rw [upd_ne _ _ e] at hk
   exact h1.1 k t hk
 ·by_cases e:k=j
  ·subst e
   rw [upd_same] at hk; cases hk
   rw [upd_ne _ _ (Ne.symm hkl)] at hl
   rcases far l t hl (Ne.symm hkl) with e2 | e2
   ·cases hr:s'.v.ownBlock with
    | none=>exact .inl rfl
    | some m=>right; rw [e2]; simp
   ·exact .inr (Ne.symm e2)
  ·rw [upd_ne _ _ e] at hk
   by_cases e':l=j
   ·subst e'; rw [upd_same] at hl; cases hl
    exact far k s hk e
   ·rw [upd_ne _ _ e'] at hl
    exact h1.2 k l s t hk hl hkl
theorem Rows.addE {B:Nat} {w w':World} {f:Names} (i:Nat×Nat) {r':Row} (h:Rows B w f) (hb:Below w.heap.size w w') (ho:r'.own B w') (hn:∀ k,r'.v.ownBlock=some k→w.heap.size≤k) :
 ∃ f',Rows B w' f'∧f' i=some r'∧∀ j,j≠i→f' j=f j :=
 ⟨_,h.add (i:=i) hb ho hn,upd_same _ _ _,fun _ e=>upd_ne _ _ e⟩
theorem Rows.add2E {B:Nat} {w w':World} {f:Names} (i j:Nat×Nat) (hij:i≠j) {r' s':Row} (h:Rows B w f) (hb:Below w.heap.size w w') (ho:r'.own B w') (hn:∀ k,r'.v.ownBlock=some k→w.heap.size≤k) (ho2:s'.own B w') (hn2:∀ k,s'.v.ownBlock=some k→w.heap.size≤k)
 (hne:r'.v.ownBlock=Option.none∨r'.v.ownBlock≠s'.v.ownBlock):∃ f',Rows B w' f'∧f' i=some r'∧f' j=some s'∧∀ k,k≠i→k≠j→f' k=f k :=
 ⟨_,h.add2 hb ho hn ho2 hn2 hne hij,by rw [upd_ne _ _ hij,upd_same],upd_same _ _ _,fun k e1 e2=>by rw [upd_ne _ _ e2,upd_ne _ _ e1]⟩
theorem Rows.lose {B:Nat} {w w':World} {f:Names} {i:Nat×Nat} {r:Row} (h:Rows B w f) (hi:f i=some r) (hg:w.grownBy w' r.v.ownBlock):∃ f',Rows B w' f'∧∀ j,j≠i→f' j=f j :=
 ⟨upd f i Option.none,⟨fun j s hj=>by
   by_cases e:j=i
   ·subst e; rw [upd_same] at hj; cases hj
   ·rw [upd_ne _ _ e] at hj
    exact World.ownsRow.kept (h.1 j s hj) hg (h.2 j i s r hj hi e),(h.drop i).2⟩,fun _ e=>upd_ne _ _ e⟩
abbrev box4 (T:TypeId) (g:Nat) (cs:List Value):Row:=⟨T,4,.slice (some ⟨g,0,none⟩) 1 1,1,cs⟩
theorem Rows.box4 {B:Nat} {w:World} {f:Names} (i:Nat×Nat) (h:Rows B w f) (hB:B≤w.heap.size) (T:TypeId) (a b c d:Value) :
 ∃ f',Rows B (w.alloc (.cells #[a,b,c,d] T)) f'∧f' i=some (Go.Proofs.YtncpnaoabkjegaaGreatDoor.box4 T w.heap.size [a,b,c,d])∧∀ j,j≠i→f' j=f j :=
 h.addE i (r':=Go.Proofs.YtncpnaoabkjegaaGreatDoor.box4 T w.heap.size [a,b,c,d]) (belowAlloc w _) (World.ownsRow_lit (base:=B) (e:=T) (size:=4) w #[a,b,c,d] 1 hB (by decide) rfl) (fun k hk=>by cases hk; exact Nat.le_refl _)
structure Cells4 (w:World) (g:Nat) (a b c d:Value):Prop where
 c0:w.cell? ⟨g,0,none⟩=some a
 c1:w.cell? ⟨g,1,none⟩=some b
 c2:w.cell? ⟨g,2,none⟩=some c
 c3:w.cell? ⟨g,3,none⟩=some d
theorem Cells4.below {w w':World} {g:Nat} {a b c d:Value} (h:Cells4 w g a b c d) (hb:Below w.heap.size w w'):Cells4 w' g a b c d:=by
 have k:∀ {i x},w.cell? ⟨g,i,none⟩=some x→w'.cell? ⟨g,i,none⟩=some x:=fun {i x} hc=>by
  rw [hb.cell (World.block_lt_of_cell? _ _ hc)]; exact hc
 exact ⟨k h.c0,k h.c1,k h.c2,k h.c3⟩
theorem Cells4.belowB {B:Nat} {w w':World} {g:Nat} {a b c d:Value} (h:Cells4 w g a b c d) (hb:Below B w w') (hg:g<B):Cells4 w' g a b c d:=by
 have k:∀ {i x},w.cell? ⟨g,i,none⟩=some x→w'.cell? ⟨g,i,none⟩=some x:=fun {i x} hc=>by
  rw [hb.cell hg]; exact hc
 exact ⟨k h.c0,k h.c1,k h.c2,k h.c3⟩
theorem Cells4.alloc (w:World) (T:TypeId) (a b c d:Value):Cells4 (w.alloc (.cells #[a,b,c,d] T)) w.heap.size a b c d:=by
 refine ⟨?_,?_,?_,?_⟩<;>simp [go_sem]
theorem Rows.cells4 {B:Nat} {w:World} {f:Names} {i:Nat×Nat} {T:TypeId} {g:Nat} {a b c d:Value} (h:Rows B w f) (hi:f i=some (Go.Proofs.YtncpnaoabkjegaaGreatDoor.box4 T g [a,b,c,d])):Cells4 w g a b c d :=
 ⟨h.cell hi (g:=g) (cap:=1) rfl 0 (show 0<1*4 by decide),h.cell hi (g:=g) (cap:=1) rfl 1 (show 1<1*4 by decide),h.cell hi (g:=g) (cap:=1) rfl 2 (show 2<1*4 by decide),h.cell hi (g:=g) (cap:=1) rfl 3 (show 3<1*4 by decide)⟩
theorem Rows.frz4 {B:Nat} {w:World} {f:Names} {i:Nat×Nat} {T:TypeId} {g:Nat} {cs:List Value} (h:Rows B w f) (hi:f i=some (Go.Proofs.YtncpnaoabkjegaaGreatDoor.box4 T g cs)) (k:Nat):w.frozen? ⟨g,k,none⟩=false :=
 h.frozen hi (g:=g) (cap:=1) rfl k
theorem Rows.low4 {B:Nat} {w:World} {f:Names} {i:Nat×Nat} {T:TypeId} {g:Nat} {cs:List Value} (h:Rows B w f) (hi:f i=some (Go.Proofs.YtncpnaoabkjegaaGreatDoor.box4 T g cs)):B≤g∧g<w.heap.size :=
 h.lt hi g rfl
theorem Rows.st4 {B:Nat} {w:World} {f:Names} {i:Nat×Nat} {T:TypeId} {g:Nat} {cs:List Value} (h:Rows B w f) (hi:f i=some (Go.Proofs.YtncpnaoabkjegaaGreatDoor.box4 T g cs)) (k:Nat) (y:Value) :
 ∃ f',Rows B (w.setCell ⟨g,k,none⟩ y) f'∧f' i=some (Go.Proofs.YtncpnaoabkjegaaGreatDoor.box4 T g (cs.set k y))∧∀ j,j≠i→f' j=f j :=
 ⟨_,h.set hi (g:=g) (cap:=1) rfl k y,upd_same _ _ _,fun _ e=>upd_ne _ _ e⟩
theorem Rows.all4 {B:Nat} {w:World} {f:Names} {i:Nat×Nat} {T:TypeId} {g:Nat} {x0 x1 x2 x3:Value} (h:Rows B w f) (hi:f i=some (Go.Proofs.YtncpnaoabkjegaaGreatDoor.box4 T g [x0,x1,x2,x3])) (a b c d:Value) :
 ∃ f',Rows B ((((w.setCell ⟨g,0,none⟩ a).setCell ⟨g,1,none⟩ b).setCell ⟨g,2,none⟩ c).setCell ⟨g,3,none⟩ d) f'∧f' i=some (Go.Proofs.YtncpnaoabkjegaaGreatDoor.box4 T g [a,b,c,d])∧∀ j,j≠i→f' j=f j:=by
 obtain ⟨f1,h1,i1,o1⟩:=h.st4 hi 0 a
 obtain ⟨f2,h2,i2,o2⟩:=h1.st4 i1 1 b
 obtain ⟨f3,h3,i3,o3⟩:=h2.st4 i2 2 c
 obtain ⟨f4,h4,i4,o4⟩:=h3.st4 i3 3 d
 exact ⟨f4,h4,i4,fun j e=>by rw [o4 j e,o3 j e,o2 j e,o1 j e]⟩
theorem Below.all4 {B g:Nat} {w0 w:World} (h:Below B w0 w) (hb:B≤g) (a b c d:Value):Below B w0 ((((w.setCell ⟨g,0,none⟩ a).setCell ⟨g,1,none⟩ b).setCell ⟨g,2,none⟩ c).setCell ⟨g,3,none⟩ d) :=
 (((h.setCell (show B≤(⟨g,0,Option.none⟩:Addr).block from hb) _).setCell (show B≤(⟨g,1,Option.none⟩:Addr).block from hb) _).setCell (show B≤(⟨g,2,Option.none⟩:Addr).block from hb) _).setCell (show B≤(⟨g,3,Option.none⟩:Addr).block from hb) _
theorem Rows.merge {B:Nat} {w w':World} {f g:Names} (p:Nat×Nat→Bool) (h:Rows B w f) (hb:Below w.heap.size w w') (hg:Rows w.heap.size w' g) (hB:B≤w.heap.size):∃ f',Rows B w' f'∧(∀ i,p i=true→f' i=g i)∧∀ i,p i=false→f' i=f i:=by
 have hf:=h.below hb
 refine ⟨fun i=>if p i=true then g i else f i,⟨fun i r hi=>?_,fun i j r s hi hj hne=>?_⟩,fun i hi=>by simp [hi],fun i hi=>by simp [hi]⟩
 ·dsimp only at hi
  split at hi
  ·have ho:=hg.1 i r hi
   refine ⟨ho.1,?_⟩
   rcases ho.2 with h2 | ⟨b,cap,cur,e,hB',rest⟩
   ·exact .inl h2
   ·exact .inr ⟨b,cap,cur,e,Nat.le_trans hB hB',rest⟩
  ·exact hf.1 i r hi
 ·dsimp only at hi hj
  have far:∀ (k l:Nat×Nat) (r s:Row),f k=some r→g l=some s→r.v.ownBlock=Option.none∨r.v.ownBlock≠s.v.ownBlock:=fun k l r s hk hl=>by
   cases hr:r.v.ownBlock with
   | none=>exact .inl rfl
   | some m =>
    right
    intro e
    have h1:=(h.lt hk m hr).2
    have h2:=(hg.lt hl m e.symm).1
    omega
  split at hi
  ·split at hj
   ·exact hg.2 i j r s hi hj hne
   ·rcases far j i s r hj hi with e | e
    ·cases hr:r.v.ownBlock with
     | none=>exact .inl rfl
     | some m=>right; rw [e]; simp
    ·exact .inr (Ne.symm e)
  ·split at hj
   ·exact far i j r s hi hj
   ·exact hf.2 i j r s hi hj hne
theorem ErrIs.all4 {r:Nat→Addr} {w:World} {t:PErr} {v:Value} {g:Nat} {n:Int} {b c d:Value} (h:ErrIs r w t v) (hc:Cells4 w g (.int .i64 n) b c d) (x y z:Value) :
 ErrIs r ((((w.setCell ⟨g,0,none⟩ (.int .i64 0)).setCell ⟨g,1,none⟩ x).setCell ⟨g,2,none⟩ y).setCell ⟨g,3,none⟩ z) t v:=by
 have k1:(w.setCell ⟨g,0,none⟩ (.int .i64 0)).cell? ⟨g,0,none⟩=some (.int .i64 0):=World.cell?_setCell_same _ _ _ hc.c0
 have k2:((w.setCell ⟨g,0,none⟩ (.int .i64 0)).setCell ⟨g,1,none⟩ x).cell? ⟨g,0,none⟩=some (.int .i64 0):=by
  rw [World.cell?_setCell_other _ _ _ _ (by intro e; cases e)]; exact k1
 have k3:(((w.setCell ⟨g,0,none⟩ (.int .i64 0)).setCell ⟨g,1,none⟩ x).setCell ⟨g,2,none⟩ y).cell? ⟨g,0,none⟩=some (.int .i64 0):=by
  rw [World.cell?_setCell_other _ _ _ _ (by intro e; cases e)]; exact k2
 exact (((h.set (b:=g) (i:=0) (fun s e=>by rw [hc.c0] at e; cases e) _).set (b:=g) (i:=1) (fun s e=>by rw [k1] at e; cases e) _).set (b:=g) (i:=2) (fun s e=>by rw [k2] at e; cases e) _).set (b:=g) (i:=3) (fun s e=>by rw [k3] at e; cases e) _
end Go.Proofs.YtncpnaoabkjegaaGreatDoor
namespace Go.Proofs.YtncpnaoabkjegaaGreatDoor
def fillL (g:Nat→List Int→Bool×List Int):List Nat→List Int→Bool×List Int
 | [],tab=>(true,tab)
 | s::l,tab=>if (g s tab).1=true then fillL g l (g s tab).2 else g s tab
def fillF (K R W:Nat) (T:List Int):Nat→Nat→Nat→Nat→List Int→Bool×List Int
 | 0,_,image,middle,tab=>if 0≤tab.getD image 0∧tab.getD image 0≠(middle:Int) then (false,tab) else (true,tab.set image middle)
 | f+1,front,image,middle,tab=>fillL (fun s t=>fillF K R W T f ((front*K+s)%(T.length/K)) (if 2*R≤W-(f+1) then image*K+(T.getD (front*K+s) 0).toNat else image) (if W-(f+1)=W/2 then s else middle) t) (List.range K) tab
theorem fillL_len {g:Nat→List Int→Bool×List Int} (hg:∀ s t,(g s t).2.length=t.length) (l:List Nat) (tab:List Int):(fillL g l tab).2.length=tab.length:=by
 induction l generalizing tab with
 | nil=>rfl
 | cons s l ih =>
  unfold fillL
  split
  ·rw [ih,hg]
  ·exact hg s tab
theorem fillF_len (K R W:Nat) (T:List Int) (f front image middle:Nat) (tab:List Int):(fillF K R W T f front image middle tab).2.length=tab.length:=by
 induction f generalizing front image middle tab with
 | zero=>unfold fillF; split<;>simp
 | succ f ih=>unfold fillF; exact fillL_len (fun s t=>ih _ _ _ _) _ _
theorem fillL_cons (g:Nat→List Int→Bool×List Int) (s:Nat) (l:List Nat) (tab:List Int):fillL g (s::l) tab=if (g s tab).1=true then fillL g l (g s tab).2 else g s tab:=rfl
theorem fillL_append (g:Nat→List Int→Bool×List Int) (l m:List Nat) (tab:List Int):fillL g (l++m) tab=if (fillL g l tab).1=true then fillL g m (fillL g l tab).2 else fillL g l tab:=by
 induction l generalizing tab with
 | nil=>simp [fillL]
 | cons s l ih =>
  rw [List.cons_append,fillL_cons,fillL_cons]
  by_cases h:(g s tab).1=true
  ·rw [if_pos h,if_pos h]; exact ih _
  ·rw [if_neg h,if_neg h,if_neg h]
theorem fillL_succ {g:Nat→List Int→Bool×List Int} {i:Nat} {tab t:List Int} (h:fillL g (List.range i) tab=(true,t)):fillL g (List.range (i+1)) tab=g i t:=by
 rw [List.range_succ,fillL_append,h,if_pos rfl,fillL_cons]
 by_cases hh:(g i t).1=true
 ·rw [if_pos hh]; exact Prod.ext hh.symm rfl
 ·rw [if_neg hh]
theorem fillL_stop {g:Nat→List Int→Bool×List Int} {i n:Nat} {tab t:List Int} (hi:i<n) (h:fillL g (List.range i) tab=(true,t)) (hf:(g i t).1=false):fillL g (List.range n) tab=g i t:=by
 obtain ⟨m,rfl⟩:∃ m,n=(i+1)+m:=⟨n-(i+1),by omega⟩
 rw [List.range_add,fillL_append,fillL_succ h,if_neg (by rw [hf]; decide)]
def tryF (K R:Nat) (T:List Int) (d:Nat):Bool×List Int:=fillF K R (2*(R+d)+1) T (2*(R+d)+1) 0 0 0 (List.replicate (pw K (2*d+1)) (-1))
def findF (K R:Nat) (T:List Int):Nat→Nat→Option (Nat×List Int)
 | 0,_=>none
 | m+1,d=>if (tryF K R T d).1=true then some (d,(tryF K R T d).2) else findF K R T m (d+1)
def findP (K R:Nat) (T:List Int):Option (Nat×List Int):=findF K R T 4 0
def FillOk (K R:Nat) (T:List Int) (n front image:Nat):Prop:=front<T.length/K∧image<pw K (n-2*R)
theorem FillOk.zero {K R:Nat} {T:List Int} (hr:RuleOk K R T):FillOk K R T 0 0 0 :=
 ⟨by rw [hr.len,pw_succ,Nat.mul_div_cancel _ (by have:=hr.k1; omega)]; exact pw_pos _ hr.k1,by rw [Nat.zero_sub]; exact pw_pos _ hr.k1⟩
theorem FillOk.window {K R:Nat} {T:List Int} {n front image s:Nat} (hr:RuleOk K R T) (h:FillOk K R T n front image) (hs:s<K):front*K+s<T.length:=by
 have hD:T.length=T.length/K*K:=by
  rw [hr.len,pw_succ,Nat.mul_div_cancel _ (by have:=hr.k1; omega)]
 have h1:(front+1)*K≤T.length/K*K:=Nat.mul_le_mul_right _ h.1
 rw [Nat.add_mul] at h1
 omega
theorem FillOk.step {K R:Nat} {T:List Int} {n front image s:Nat} (hr:RuleOk K R T) (h:FillOk K R T n front image) (hs:s<K) :
 FillOk K R T (n+1) ((front*K+s)%(T.length/K)) (if 2*R≤n then image*K+(T.getD (front*K+s) 0).toNat else image):=by
 refine ⟨Nat.mod_lt _ (by have:=h.1; omega),?_⟩
 split
 ·rename_i hn
  have hw:=h.window hr hs
  have e:T.getD (front*K+s) 0=T[front*K+s]:=by simp [List.getD,hw]
  have h1:=hr.syms _ (List.getElem_mem hw)
  rw [e,show n+1-2*R=(n-2*R)+1 by omega,pw_succ]
  have h2:(image+1)*K≤pw K (n-2*R)*K:=Nat.mul_le_mul_right _ h.2
  rw [Nat.add_mul] at h2
  omega
 ·rename_i hn
  have h2:=h.2
  rw [show n-2*R=0 by omega] at h2
  rw [show n+1-2*R=0 by omega]
  exact h2
theorem img_mir {K R:Nat} {T:List Int} (h:RuleOk K R T) {x:List Int} (hx:Syms K x):imgP K R (mirT K (2*R+1) T) x=(imgP K R T x.reverse).reverse:=by
 refine List.ext_getElem (by simp [imgP_length]) fun i h1 h2=>?_
 have h1':=h1
 rw [imgP_length] at h1'
 have e1:=imgP_getD K R (mirT K (2*R+1) T) x i h1'
 rw [List.getD_eq_getElem?_getD,List.getElem?_eq_getElem h1,Option.getD_some] at e1
 rw [e1,List.getElem_reverse]
 have hj:(imgP K R T x.reverse).length-1-i<x.reverse.length-2*R:=by simp only [imgP_length,List.length_reverse]; omega
 have e2:=imgP_getD K R T x.reverse _ hj
 rw [List.getD_eq_getElem?_getD,List.getElem?_eq_getElem (show (imgP K R T x.reverse).length-1-i<(imgP K R T x.reverse).length by rw [imgP_length] at hj ⊢; exact hj),Option.getD_some] at e2
 rw [e2,mirT_at h.k1 h.len _ (syms_take (syms_drop hx _) _) (by simp; omega)]
 congr 2
 rw [imgP_length,List.length_reverse]
 refine List.ext_getElem (by simp; omega) fun j a b=>?_
 simp only [List.length_reverse,List.length_take,List.length_drop] at a b
 simp only [List.getElem_reverse,List.getElem_take,List.getElem_drop,List.length_take,List.length_drop]
 congr 1
 omega
theorem twins_rev {K R:Nat} {T T':List Int} (hi:∀ x,Syms K x→imgP K R T' x=(imgP K R T x.reverse).reverse) {a b:List Int} (t:IsTwins K R T' a b):IsTwins K R T a.reverse b.reverse:=by
 have hl:=t.len
 have hw:=t.low
 refine ⟨syms_rev t.sa,syms_rev t.sb,by simpa using hl,fun e=>t.ne (List.reverse_inj.1 e),by simpa using hw,?_,?_,?_⟩
 ·rw [List.take_reverse,List.take_reverse,t.back]
 ·rw [List.drop_reverse,List.drop_reverse,List.length_reverse,List.length_reverse,show a.length-(a.length-2*R)=2*R by omega,show b.length-(b.length-2*R)=2*R by omega,t.front]
 ·have:=t.img
  rw [hi a t.sa,hi b t.sb] at this
  exact List.reverse_inj.1 this
theorem twins_mir {K R:Nat} {T:List Int} (h:RuleOk K R T) {a b:List Int}:IsTwins K R (mirT K (2*R+1) T) a b↔IsTwins K R T a.reverse b.reverse:=by
 constructor
 ·exact twins_rev fun x hx=>img_mir h hx
 ·intro t
  have:=twins_rev (T:=mirT K (2*R+1) T) (fun x hx=>by rw [img_mir h (syms_rev hx),List.reverse_reverse,List.reverse_reverse]) t
  rwa [List.reverse_reverse,List.reverse_reverse] at this
theorem mir_twins {K R:Nat} {T:List Int} (h:RuleOk K R T) {a b:List Int} (t:IsTwins K R T a b):IsTwins K R (mirT K (2*R+1) T) a.reverse b.reverse:=(twins_mir h).2 (by rwa [List.reverse_reverse,List.reverse_reverse])
def wideT (K R d:Nat) (T:List Int):List Int:=(List.range (pw K (2*(R+d)+1))).map fun i=>T.getD (numW K (((digs K (2*(R+d)+1) i).drop d).take (2*R+1))) 0
theorem wideT_length (K R d:Nat) (T:List Int):(wideT K R d T).length=pw K (2*(R+d)+1):=by simp [wideT]
theorem wideT_ok {K R d:Nat} {T:List Int} (h:RuleOk K R T) (hd:R+d≤3):RuleOk K (R+d) (wideT K R d T) :=
 ⟨h.k1,h.k4,hd,wideT_length ..,fun y hy=>by
   obtain ⟨i,_,rfl⟩:=List.mem_map.1 hy
   exact h.syms.getD (by have:=h.k1; omega) _⟩
theorem wideT_at {K R d:Nat} {T:List Int} (hK:1≤K) (w:List Int) (hw:Syms K w) (hl:w.length=2*(R+d)+1):(wideT K R d T).getD (numW K w) 0=T.getD (numW K ((w.drop d).take (2*R+1))) 0:=by
 have hlt:=numW_lt w hw
 rw [hl] at hlt
 have:(wideT K R d T).getD (numW K w) 0=T.getD (numW K (((digs K (2*(R+d)+1) (numW K w)).drop d).take (2*R+1))) 0:=by simp [wideT,List.getD,hlt]
 rw [this,← hl,digs_numW hK w hw]
theorem img_wide {K R d:Nat} {T:List Int} (hK:1≤K) (x:List Int) (hx:Syms K x):imgP K (R+d) (wideT K R d T) x=imgP K R T ((x.drop d).take (x.length-2*d)):=by
 refine List.ext_getElem (by rw [imgP_length,imgP_length]; simp; omega) fun i h1 h2=>?_
 have e1:=imgP_getD K (R+d) (wideT K R d T) x i (by rw [imgP_length] at h1; exact h1)
 have e2:=imgP_getD K R T ((x.drop d).take (x.length-2*d)) i (by rw [imgP_length] at h2; exact h2)
 rw [imgP_length] at h1
 rw [List.getD_eq_getElem?_getD,List.getElem?_eq_getElem (by rw [imgP_length]; exact h1),Option.getD_some] at e1
 rw [List.getD_eq_getElem?_getD,List.getElem?_eq_getElem h2,Option.getD_some] at e2
 rw [e1,e2,wideT_at hK _ (syms_take (syms_drop hx i) _) (by simp; omega)]
 congr 2
 rw [List.drop_take,List.take_take,List.drop_drop,List.drop_take,List.drop_drop,List.take_take,Nat.add_comm d i]
 congr 1
 omega
theorem sub_get {x:List Int} {i m j:Nat} (h:j<m):((x.drop i).take m).getD j 0=x.getD (i+j) 0:=by
 simp [List.getD,h,List.getElem?_drop]
theorem ext_getD {a b:List Int} (hl:a.length=b.length) (h:∀ t,t<a.length→a.getD t 0=b.getD t 0):a=b :=
 List.ext_getElem hl fun t h1 h2=>by have:=h t h1; simpa [List.getD,h1,h2] using this
theorem ne_at {a b:List Int} (hl:a.length=b.length) (hne:a≠b):∃ j,j<a.length∧a.getD j 0≠b.getD j 0:=by
 apply Classical.byContradiction
 intro h
 exact hne (ext_getD hl fun t ht=>Classical.byContradiction fun q=>h ⟨t,ht,q⟩)
theorem img_cut {K R:Nat} {T x:List Int} {i m:Nat} (h:i+m≤x.length):imgP K R T ((x.drop i).take m)=((imgP K R T x).drop i).take (m-2*R):=by
 have hl:((x.drop i).take m).length=m:=by simp; omega
 refine ext_getD (by simp only [imgP_length,hl,List.length_take,List.length_drop]; omega) fun t ht=>?_
 rw [imgP_length,hl] at ht
 rw [imgP_getD _ _ _ _ _ (by rw [hl]; exact ht),sub_get ht,imgP_getD _ _ _ _ _ (by omega)]
 congr 2
 rw [List.drop_take,List.take_take,List.drop_drop,Nat.min_eq_left (by omega)]
def Split (K R:Nat) (T:List Int) (n:Nat):Prop:=∃ x y,Syms K x∧Syms K y∧x.length=2*n+1∧y.length=2*n+1∧x.getD n 0≠y.getD n 0∧imgP K R T x=imgP K R T y
def NotOne (K R:Nat) (T:List Int):Prop:=∀ n,Split K R T n
theorem split_of {K R:Nat} {T x y:List Int} (sx:Syms K x) (sy:Syms K y) (hl:x.length=y.length) {j n:Nat} (h1:n≤j) (h2:j+n<x.length) (hne:x.getD j 0≠y.getD j 0)
 (hi:imgP K R T ((x.drop (j-n)).take (2*n+1))=imgP K R T ((y.drop (j-n)).take (2*n+1))):Split K R T n :=
 ⟨_,_,syms_take (syms_drop sx _) _,syms_take (syms_drop sy _) _,by simp; omega,by simp; omega,by
   rw [sub_get (by omega),sub_get (by omega),show j-n+n=j by omega]; exact hne,hi⟩
theorem split_img {K R:Nat} {T x y:List Int} (sx:Syms K x) (sy:Syms K y) (hl:x.length=y.length) {j n:Nat} (h1:n≤j) (h2:j+n<x.length) (hne:x.getD j 0≠y.getD j 0)
 (hi:imgP K R T x=imgP K R T y):Split K R T n :=
 split_of sx sy hl h1 h2 hne (by rw [img_cut (by omega),img_cut (by omega),hi])
theorem Split.mono {K R:Nat} {T:List Int} {n m:Nat} (h:Split K R T n) (hm:m≤n):Split K R T m:=by
 obtain ⟨x,y,sx,sy,lx,ly,hne,hi⟩:=h
 exact split_img sx sy (by omega) (j:=n) hm (by omega) hne hi
theorem pad_get {z a v:List Int} {n j:Nat} (hz:z.length=n) (hj:j<a.length):(z++a++v).getD (n+j) 0=a.getD j 0:=by
 subst hz
 rw [List.append_assoc,List.getD_eq_getElem?_getD,List.getElem?_append_right (by omega),Nat.add_sub_cancel_left,List.getElem?_append_left hj,← List.getD_eq_getElem?_getD]
theorem syms_pad {K:Nat} (hK:1≤K) {a:List Int} (h:Syms K a) (n m:Nat):Syms K (List.replicate n 0++a++List.replicate m 0):=by
 intro y hy
 rcases List.mem_append.1 hy with hy | hy
 ·rcases List.mem_append.1 hy with hy | hy
  ·rw [List.eq_of_mem_replicate hy]; omega
  ·exact h y hy
 ·rw [List.eq_of_mem_replicate hy]; omega
theorem notOne_wide {K R d:Nat} {T:List Int} (hK:1≤K):NotOne K (R+d) (wideT K R d T)↔NotOne K R T:=by
 constructor
 ·intro h n
  obtain ⟨x,y,sx,sy,lx,ly,hne,e⟩:=h (n+d)
  rw [img_wide hK x sx,img_wide hK y sy] at e
  refine ⟨_,_,syms_take (syms_drop sx d) _,syms_take (syms_drop sy d) _,by simp; omega,by simp; omega,?_,e⟩
  rw [sub_get (by omega),sub_get (by omega),Nat.add_comm d n]
  exact hne
 ·intro h n
  obtain ⟨x,y,sx,sy,lx,ly,hne,e⟩:=h n
  have mid:∀ u:List Int,((List.replicate d (0:Int)++u++List.replicate d 0).drop d).take ((List.replicate d (0:Int)++u++List.replicate d 0).length-2*d)=u:=fun u=>by
   rw [List.append_assoc,List.drop_left' (by simp),List.take_left' (by simp; omega)]
  refine Split.mono (n:=n+d) ⟨_,_,syms_pad hK sx d d,syms_pad hK sy d d,by simp; omega,by simp; omega,?_,?_⟩ (by omega)
  ·rw [Nat.add_comm n d,pad_get (by simp) (by omega),pad_get (by simp) (by omega)]
   exact hne
  ·rw [img_wide hK _ (syms_pad hK sx d d),img_wide hK _ (syms_pad hK sy d d),mid,mid,e]
def Onto (K R:Nat) (T:List Int):Prop:=∀ y,Syms K y→∃ x,Syms K x∧x.length=y.length+2*R∧imgP K R T x=y
def behB (K N:Nat) (T:List Int) (l:List Bool) (s:Int):List Bool :=
 (List.range N).map fun v=>(List.range N).any fun u=>l.getD u false&&(List.range K).any fun c=>decide ((u*K+c)%N=v)&&decide (T.getD (u*K+c) 0=s)
theorem behB_len (K N:Nat) (T:List Int) (l:List Bool) (s:Int):(behB K N T l s).length=N:=by simp [behB]
theorem behB_iff {K N:Nat} {T:List Int} {l:List Bool} {s:Int} {v:Nat} (hv:v<N) :
 (behB K N T l s).getD v false=true↔∃ u,u<N∧l.getD u false=true∧∃ c,c<K∧(u*K+c)%N=v∧T.getD (u*K+c) 0=s:=by
 have e:(behB K N T l s).getD v false=(List.range N).any fun u=>l.getD u false&&(List.range K).any fun c=>decide ((u*K+c)%N=v)&&decide (T.getD (u*K+c) 0=s):=by
  unfold behB; simp [List.getD,hv]
 rw [e,List.any_eq_true]
 constructor
 ·rintro ⟨u,hu,h⟩
  rw [Bool.and_eq_true,List.any_eq_true] at h
  obtain ⟨h1,c,hc,h2⟩:=h
  rw [Bool.and_eq_true,decide_eq_true_iff,decide_eq_true_iff] at h2
  exact ⟨u,List.mem_range.1 hu,h1,c,List.mem_range.1 hc,h2.1,h2.2⟩
 ·rintro ⟨u,hu,h1,c,hc,h2,h3⟩
  refine ⟨u,List.mem_range.2 hu,?_⟩
  rw [Bool.and_eq_true,List.any_eq_true]
  refine ⟨h1,c,List.mem_range.2 hc,?_⟩
  rw [Bool.and_eq_true,decide_eq_true_iff,decide_eq_true_iff]
  exact ⟨h2,h3⟩
def reachB (K N:Nat) (T:List Int) (y:List Int):List Bool:=y.foldl (behB K N T) (List.replicate N true)
theorem snoc_indI {P:List Int→Prop} (h0:P []) (h1:∀ y s,P y→P (y++[s])) (y:List Int):P y:=by
 generalize hn:y.length=n
 induction n generalizing y with
 | zero=>rw [List.eq_nil_of_length_eq_zero hn]; exact h0
 | succ n ih =>
  have hne:y≠[]:=by intro e; subst e; simp at hn
  obtain ⟨b,x,rfl⟩:∃ b x,y=b++[x]:=⟨y.dropLast,y.getLast hne,(List.dropLast_concat_getLast hne).symm⟩
  exact h1 _ _ (ih b (by simpa using hn))
theorem syms_snocI {K:Int} {y:List Int} {s:Int}:Syms K (y++[s])↔Syms K y∧0≤s∧s<K :=
 ⟨fun h=>⟨fun x hx=>h x (by simp [hx]),h s (by simp)⟩,fun h x hx=>by
   rcases List.mem_append.1 hx with hx | hx
   ·exact h.1 x hx
   ·simp at hx; subst hx; exact h.2⟩
theorem any_iff {l:List Bool} {N:Nat} (hl:l.length=N):l.any id=true↔∃ v,v<N∧l.getD v false=true:=by
 subst hl
 rw [List.any_eq_true]
 constructor
 ·rintro ⟨b,hb,h⟩
  obtain ⟨i,hi,rfl⟩:=List.getElem_of_mem hb
  exact ⟨i,hi,by simpa [List.getD,hi] using h⟩
 ·rintro ⟨v,hv,h⟩
  exact ⟨l[v],List.getElem_mem hv,by simpa [List.getD,hv] using h⟩
inductive SubR where
 | on (sets:List (List Bool)) (words:List (List Int))
 | orphan (w:List Int)
 | big
def subStep (K N:Nat) (T:List Int) (i t:Nat) (sets:List (List Bool)) (words:List (List Int)):SubR :=
 if (behB K N T (sets.getD i []) t).any id=false then .orphan (words.getD i []++[(t:Int)])
 else if behB K N T (sets.getD i []) t∈sets then .on sets words
 else if sets.length=4096 then .big
 else .on (sets++[behB K N T (sets.getD i []) t]) (words++[words.getD i []++[(t:Int)]])
def subRow (K N:Nat) (T:List Int) (i:Nat):Nat→Nat→List (List Bool)→List (List Int)→SubR
 | 0,_,sets,words=>.on sets words
 | m+1,t,sets,words=>match subStep K N T i t sets words with
  | .on a b=>subRow K N T i m (t+1) a b
  | r=>r
def subGo (K N:Nat) (T:List Int):Nat→Nat→List (List Bool)→List (List Int)→SubR
 | 0,_,sets,words=>.on sets words
 | f+1,i,sets,words=>if i<sets.length then match subRow K N T i K 0 sets words with
  | .on a b=>subGo K N T f (i+1) a b
  | r=>r
  else .on sets words
def subR (K N:Nat) (T:List Int):SubR:=subGo K N T 4097 0 [List.replicate N true] [[]]
structure SubInv (K N:Nat) (T:List Int) (i:Nat) (sets:List (List Bool)) (words:List (List Int)):Prop where
 ll:words.length=sets.length
 z0:0<sets.length
 z1:sets.getD 0 []=List.replicate N true
 z2:words.getD 0 []=[]
 eq:∀ j,j<sets.length→sets.getD j []=reachB K N T (words.getD j [])
 sy:∀ j,j<sets.length→Syms K (words.getD j [])
 ne:∀ j,j<sets.length→(sets.getD j []).any id=true
 mono:∀ j k,j≤k→k<sets.length→(words.getD j []).length≤(words.getD k []).length
 close:∀ j,j<i→∀ s,s<K→∃ k,k<sets.length∧sets.getD k []=behB K N T (sets.getD j []) (s:Nat)∧(words.getD k []).length≤(words.getD j []).length+1
 small:sets.length≤4096
structure SubMid (K N:Nat) (T:List Int) (i t:Nat) (sets:List (List Bool)) (words:List (List Int)):Prop extends SubInv K N T i sets words where
 il:i<sets.length
 top:∀ k,k<sets.length→(words.getD k []).length≤(words.getD i []).length+1
 part:∀ s,s<t→∃ k,k<sets.length∧sets.getD k []=behB K N T (sets.getD i []) (s:Nat)∧(words.getD k []).length≤(words.getD i []).length+1
theorem getD_leftS {α:Type} {l m:List α} {j:Nat} {d:α} (h:j<l.length):(l++m).getD j d=l.getD j d:=by
 simp [List.getD,List.getElem?_append_left h]
theorem getD_end {α:Type} {l:List α} {x d:α}:(l++[x]).getD l.length d=x:=by simp [List.getD]
theorem SubInv.mid {K N i:Nat} {T:List Int} {sets:List (List Bool)} {words:List (List Int)} (h:SubInv K N T i sets words) (hi:i<sets.length) (ht:∀ k,k<sets.length→(words.getD k []).length≤(words.getD i []).length+1):SubMid K N T i 0 sets words :=
 ⟨h,hi,ht,fun _ hs=>absurd hs (Nat.not_lt_zero _)⟩
open Go.RowKit
set_option maxRecDepth 100000
abbrev boxN (T:TypeId) (n g:Nat) (cs:List Value):Row:=⟨T,n,.slice (some ⟨g,0,none⟩) 1 1,1,cs⟩
theorem Rows.mkN {B:Nat} {w:World} {f:Names} (i:Nat×Nat) (h:Rows B w f) (hB:B≤w.heap.size) (T:TypeId) (n:Nat) (cs:Array Value) (hs:cs.size=n) :
 ∃ f',Rows B (w.alloc (.cells cs T)) f'∧f' i=some (boxN T n w.heap.size cs.toList)∧∀ j,j≠i→f' j=f j :=
 h.addE i (r':=boxN T n w.heap.size cs.toList) (belowAlloc w _) (World.ownsRow_lit (base:=B) (e:=T) (size:=n) w cs 1 hB (by unfold maxLen; omega) (by rw [hs]; omega)) (fun k hk=>by cases hk; exact Nat.le_refl _)
section
variable {B:Nat} {w:World} {f:Names} {i:Nat×Nat} {T:TypeId} {n g:Nat} {cs:List Value}
theorem Rows.cellN (h:Rows B w f) (hi:f i=some (boxN T n g cs)) (k:Nat) (hk:k<n):w.cell? ⟨g,k,none⟩=cs[k]?:=h.cell hi (g:=g) (cap:=1) rfl k (show k<1*n by omega)
theorem Rows.frzN (h:Rows B w f) (hi:f i=some (boxN T n g cs)) (k:Nat):w.frozen? ⟨g,k,none⟩=false:=h.frozen hi (g:=g) (cap:=1) rfl k
theorem Rows.lowN (h:Rows B w f) (hi:f i=some (boxN T n g cs)):B≤g∧g<w.heap.size:=h.lt hi g rfl
theorem Rows.stN (h:Rows B w f) (hi:f i=some (boxN T n g cs)) (k:Nat) (y:Value):∃ f',Rows B (w.setCell ⟨g,k,none⟩ y) f'∧f' i=some (boxN T n g (cs.set k y))∧∀ j,j≠i→f' j=f j :=
 ⟨_,h.set hi (g:=g) (cap:=1) rfl k y,upd_same _ _ _,fun _ e=>upd_ne _ _ e⟩
end
def LkAt (B:Nat) (w:World) (b x e o:Nat) (rs cs es zs:List Value) (ov fv:Value) (ol fl:List Int):Prop :=
 ∃ f,Rows B w f∧f (40,0)=some (boxN 46 9 x cs)∧f (41,0)=some (boxN 101 5 e es)∧f (42,0)=some (boxN 46 9 o zs)∧f (43,0)=some (rowI ov ol)∧f (44,0)=some (rowI fv fl)∧f (45,0)=some (boxN 24 3 b rs)
section
variable {B:Nat} {w:World} {b x e o:Nat} {rs cs es zs:List Value} {ov fv:Value} {ol fl:List Int}
theorem LkAt.below {w':World} (h:LkAt B w b x e o rs cs es zs ov fv ol fl) (hb:Below w.heap.size w w'):LkAt B w' b x e o rs cs es zs ov fv ol fl:=by
 obtain ⟨f,hR,r⟩:=h
 exact ⟨f,hR.below hb,r⟩
theorem LkAt.low (h:LkAt B w b x e o rs cs es zs ov fv ol fl):B≤x∧B≤e∧B≤o:=by
 obtain ⟨f,hR,n0,n1,n2,-,-,-⟩:=h
 exact ⟨(hR.lowN n0).1,(hR.lowN n1).1,(hR.lowN n2).1⟩
theorem LkAt.cx (h:LkAt B w b x e o rs cs es zs ov fv ol fl) (k:Nat) (hk:k<9):w.cell? ⟨x,k,none⟩=cs[k]?:=by
 obtain ⟨f,hR,n0,n1,n2,-,-,-⟩:=h
 exact hR.cellN n0 k hk
theorem LkAt.ce (h:LkAt B w b x e o rs cs es zs ov fv ol fl) (k:Nat) (hk:k<5):w.cell? ⟨e,k,none⟩=es[k]?:=by
 obtain ⟨f,hR,n0,n1,n2,-,-,-⟩:=h
 exact hR.cellN n1 k hk
theorem LkAt.co (h:LkAt B w b x e o rs cs es zs ov fv ol fl) (k:Nat) (hk:k<9):w.cell? ⟨o,k,none⟩=zs[k]?:=by
 obtain ⟨f,hR,n0,n1,n2,-,-,-⟩:=h
 exact hR.cellN n2 k hk
theorem LkAt.cr (h:LkAt B w b x e o rs cs es zs ov fv ol fl) (k:Nat) (hk:k<3):w.cell? ⟨b,k,none⟩=rs[k]?:=by
 obtain ⟨f,hR,n0,n1,n2,-,-,n5⟩:=h
 exact hR.cellN n5 k hk
theorem LkAt.fx (h:LkAt B w b x e o rs cs es zs ov fv ol fl) (k:Nat):w.frozen? ⟨x,k,none⟩=false:=by
 obtain ⟨f,hR,n0,n1,n2,-,-,-⟩:=h
 exact hR.frzN n0 k
theorem LkAt.fe (h:LkAt B w b x e o rs cs es zs ov fv ol fl) (k:Nat):w.frozen? ⟨e,k,none⟩=false:=by
 obtain ⟨f,hR,n0,n1,n2,-,-,-⟩:=h
 exact hR.frzN n1 k
theorem LkAt.fo (h:LkAt B w b x e o rs cs es zs ov fv ol fl) (k:Nat):w.frozen? ⟨o,k,none⟩=false:=by
 obtain ⟨f,hR,n0,n1,n2,-,-,-⟩:=h
 exact hR.frzN n2 k
theorem LkAt.sx (h:LkAt B w b x e o rs cs es zs ov fv ol fl) (k:Nat) (y:Value):LkAt B (w.setCell ⟨x,k,none⟩ y) b x e o rs (cs.set k y) es zs ov fv ol fl:=by
 obtain ⟨f,hR,n0,n1,n2,n3,n4,n5⟩:=h
 obtain ⟨f',hR',m0,o'⟩:=hR.stN n0 k y
 exact ⟨f',hR',m0,(o' _ (by decide)).trans n1,(o' _ (by decide)).trans n2,(o' _ (by decide)).trans n3,(o' _ (by decide)).trans n4,(o' _ (by decide)).trans n5⟩
theorem LkAt.se (h:LkAt B w b x e o rs cs es zs ov fv ol fl) (k:Nat) (y:Value):LkAt B (w.setCell ⟨e,k,none⟩ y) b x e o rs cs (es.set k y) zs ov fv ol fl:=by
 obtain ⟨f,hR,n0,n1,n2,n3,n4,n5⟩:=h
 obtain ⟨f',hR',m0,o'⟩:=hR.stN n1 k y
 exact ⟨f',hR',(o' _ (by decide)).trans n0,m0,(o' _ (by decide)).trans n2,(o' _ (by decide)).trans n3,(o' _ (by decide)).trans n4,(o' _ (by decide)).trans n5⟩
theorem LkAt.so (h:LkAt B w b x e o rs cs es zs ov fv ol fl) (k:Nat) (y:Value):LkAt B (w.setCell ⟨o,k,none⟩ y) b x e o rs cs es (zs.set k y) ov fv ol fl:=by
 obtain ⟨f,hR,n0,n1,n2,n3,n4,n5⟩:=h
 obtain ⟨f',hR',m0,o'⟩:=hR.stN n2 k y
 exact ⟨f',hR',(o' _ (by decide)).trans n0,(o' _ (by decide)).trans n1,m0,(o' _ (by decide)).trans n3,(o' _ (by decide)).trans n4,(o' _ (by decide)).trans n5⟩
theorem LkAt.orphan {w':World} {v:Value} {l:List Int} (h:LkAt B w b x e o rs cs es zs ov fv ol fl) (hb:Below w.heap.size w w') (hB:B≤w.heap.size) (ho:OwnI w.heap.size w' v l):LkAt B w' b x e o rs cs es zs v fv l fl:=by
 obtain ⟨f,hR,n0,n1,n2,n3,n4,n5⟩:=h
 obtain ⟨f',hR',m0,o'⟩:=hR.addE (43,0) (r':=rowI v l) hb (ho.mono hB) (fun k hk=>(ho.lt k hk).1)
 exact ⟨f',hR',(o' _ (by decide)).trans n0,(o' _ (by decide)).trans n1,(o' _ (by decide)).trans n2,m0,(o' _ (by decide)).trans n4,(o' _ (by decide)).trans n5⟩
theorem LkAt.facs {w':World} {v:Value} {l:List Int} (h:LkAt B w b x e o rs cs es zs ov fv ol fl) (hb:Below w.heap.size w w') (hB:B≤w.heap.size) (ho:OwnI w.heap.size w' v l):LkAt B w' b x e o rs cs es zs ov v ol l:=by
 obtain ⟨f,hR,n0,n1,n2,n3,n4,n5⟩:=h
 obtain ⟨f',hR',m0,o'⟩:=hR.addE (44,0) (r':=rowI v l) hb (ho.mono hB) (fun k hk=>(ho.lt k hk).1)
 exact ⟨f',hR',(o' _ (by decide)).trans n0,(o' _ (by decide)).trans n1,(o' _ (by decide)).trans n2,(o' _ (by decide)).trans n3,m0,(o' _ (by decide)).trans n5⟩
theorem LkAt.lists (h:LkAt B w b x e o rs cs es zs ov fv ol fl):OwnI B w ov ol∧OwnI B w fv fl∧(ov.ownBlock=none∨ov.ownBlock≠fv.ownBlock):=by
 obtain ⟨f,hR,n0,n1,n2,n3,n4,n5⟩:=h
 exact ⟨hR.ownI n3,hR.ownI n4,hR.2 (43,0) (44,0) _ _ n3 n4 (by decide)⟩
end
def ontoN:SubR→Int
 | .on _ _=>1
 | .orphan _=>2
 | .big=>3
def orphL:SubR→List Int
 | .orphan w=>w
 | _=>[]
end Go.Proofs.YtncpnaoabkjegaaGreatDoor
namespace Go.Proofs.YtncpnaoabkjegaaGreatDoor
open Go.RowKit Go.Extern.Stop Go.Stop Go.Extern
set_option maxRecDepth 100000
set_option maxHeartbeats 8000000
namespace Errs
theorem noIsE (v:Value) (xT:TypeId) (w:World):(Instr.typeAssert (.iface 322 v) xT 258 true).run Tryz.prog w=.ok (.tuple #[.nilIface,.bool false]) w:=run_typeAssert_lacksB uIs (by kernel_rfl) (by kernel_rfl) v xT w
theorem noUnwE (v:Value) (xT:TypeId) (w:World):(Instr.typeAssert (.iface 322 v) xT 227 true).run Tryz.prog w=.ok (.tuple #[.nilIface,.bool false]) w:=run_typeAssert_lacksB uUnw (by kernel_rfl) (by kernel_rfl) v xT w
theorem uUnws' : Tryz.prog.underlying 246 = some (.interface #[("Unwrap", 248)]) := by kernel_rfl
theorem noUnwsE (v:Value) (xT:TypeId) (w:World):(Instr.typeAssert (.iface 322 v) xT 246 true).run Tryz.prog w=.ok (.tuple #[.nilIface,.bool false]) w:=run_typeAssert_lacksB uUnws' (by kernel_rfl) (by kernel_rfl) v xT w
theorem roots_ne {r:Nat→Addr} {w:World} (hg:Glob r w) {m n:Int} (hm:1≤m∧m≤11) (hn:1≤n∧n≤11) (hne:m≠n):(binOp .eql 27 (rootV r m) (rootV r n)).run Tryz.prog w=.ok (.bool false) w:=by
 obtain ⟨i,hi,hcmp⟩:=Option.map_eq_some_iff.1 compE
 obtain ⟨j,hj,hjs⟩:=Option.map_eq_some_iff.1 sizeE
 obtain ⟨c1,t1,f1⟩:=hg.flat m.toNat (.inl (by omega))
 obtain ⟨c2,t2,f2⟩:=hg.flat n.toNat (.inl (by omega))
 exact run_eql_iface_ptr_other (P:=Tryz.prog) w uErr uES hi hcmp hj (by rw [hjs]; decide) (fun e=>hne (hg.apart m n hm.1 hm.2 hn.1 hn.2 e)) f1 f2
theorem is_loop_no (r:Nat→Addr) (n m:Int) (l:List (ByteArray×Int)) (v:Value) (w:World) (hg:Glob r w) (h:ErrAt r w n l v) (hm:1≤m∧m≤11) (hn:1≤n∧n≤11) (hne:n≠m) :
 Calls Tryz.prog 138 #[v,rootV r m,.bool true] w fun e w'=>e=.returned (.bool false)∧w=w':=by
 have heq:=roots_ne hg hn hm hne
 have nF:=noIsF
 have uF:=hasUnwrapF
 have mU:=methodUnwrap
 have nE:=noIsE
 have uE:=noUnwE
 have usE:=noUnwsE
 replace h:=Hd h
 replace hg:=Hd hg
 clear hm hn hne
 go_enter Tryz.func138,Tryz.ntmps138
 go_wp2
 go_loopg [0] l.length (fun k u wr=>wr=w∧∃ l',l'.length=k∧ErrAt r w n l' u)
 case atStart=>exact ⟨rfl,l,rfl,h.out⟩
 case round =>
  obtain ⟨rfl,l',hl',hu⟩:=hrel
  match l',hl',hu with
  | [],hl',hu =>
   obtain rfl:_=rootV r n:=hu
   clear hl'
   go_wp2
   go_ret
   exact ⟨rfl,rfl⟩
  | (op,at_)::rest,hl',hu =>
   obtain ⟨p,u',rfl,c0,c1,c2,hrest⟩:=hu
   obtain ⟨T,a,rfl⟩:=hrest.shape
   have hty:=run_eql_iface_types (P:=Tryz.prog) 119 322 (.pointer (some ⟨p,0,none⟩)) (.pointer (some (r m.toNat))) uErr (by decide) wr
   replace hrest:=Hd hrest
   replace hl':=Hd hl'
   go_wp2_with (go_at_call 281; refine (unwrap_any p _ _ c2).mono ?_; rintro e w' ⟨rfl,rfl⟩)
   go_roundg rest.length
   case measure=>have:=hl'.out; simp at this; omega
   case rel=>exact ⟨rfl,rest,rfl,hrest.out⟩
theorem is_no (r:Nat→Addr) (n m:Int) (l:List (ByteArray×Int)) (v:Value) (w:World) (hg:Glob r w) (h:ErrAt r w n l v) (hm:1≤m∧m≤11) (hn:1≤n∧n≤11) (hne:n≠m) :
 Calls Tryz.prog 61 #[v,rootV r m] w fun e w'=>e=.returned (.bool false)∧w=w':=by
 have h8:=@run_callFunc_extern Tryz.prog 137 _ Extern.ReflectliteType.typeOf Tryz.func137 (by kernel_rfl) (by kernel_rfl) (by kernel_rfl) (by kernel_rfl)
 have h32 := @run_callFunc_extern Tryz.prog 288 _ (Extern.ReflectliteType.method fun t => do Extern.Rtype.noPackHeld "Comparable" t; pure (.bool (← typeInfo t).comparable)) Tryz.func288 (by kernel_rfl) (by kernel_rfl) (by kernel_rfl) (by kernel_rfl)
 have tT:=typeOfE
 have cT:=comparableE
 have mR:=methodComparable
 obtain ⟨T,a,rfl⟩:=h.shape
 replace h:=Hd h
 replace hg:=Hd hg
 go_enter Tryz.func61,Tryz.ntmps61
 go_wp2_with fail
 refine (is_loop_no r n m l _ _ hg.out h.out hm hn hne).mono ?_
 rintro e w' ⟨rfl,rfl⟩
 go_wp2
 go_ret
 exact ⟨rfl,rfl⟩
theorem is_nil (T:TypeId) (x:Value) (w:World):Calls Tryz.prog 61 #[.nilIface,.iface T x] w fun e w'=>e=.returned (.bool false)∧w=w':=by
 have q:=fun w':World=>run_eql_iface_nil_left (P:=Tryz.prog) w' T x uErr
 go_enter Tryz.func61,Tryz.ntmps61
 go_wp2
 go_ret
 exact ⟨rfl,rfl⟩
end Errs
end Go.Proofs.YtncpnaoabkjegaaGreatDoor
namespace Go.Proofs.YtncpnaoabkjegaaGreatDoor
def bitsN:List Bool→Nat
 | []=>0
 | b::l=>b.toNat+2*bitsN l
theorem bitsN_testBit:∀ (l:List Bool) (i:Nat),(bitsN l).testBit i=l.getD i false
 | [],i=>by simp [bitsN]
 | b::l,0=>by
  unfold bitsN
  rw [Nat.testBit_zero]
  cases b<;>simp
 | b::l,i+1=>by
  unfold bitsN
  rw [Nat.testBit_succ,show (b.toNat+2*bitsN l)/2=bitsN l by cases b<;>simp<;>omega,bitsN_testBit l i]
  simp
theorem bitsN_lt:∀ (l:List Bool),bitsN l<2 ^ l.length
 | []=>by simp [bitsN]
 | b::l=>by
  have:=bitsN_lt l
  unfold bitsN
  rw [List.length_cons,Nat.pow_succ]
  have:b.toNat≤1:=Bool.toNat_le b
  omega
theorem bitsN_zero (n:Nat):bitsN (List.replicate n false)=0:=by
 induction n with
 | zero=>rfl
 | succ n ih=>rw [List.replicate_succ]; simp [bitsN,ih]
def wordB (l:List Bool) (w:Nat):Nat:=bitsN ((l.drop (64*w)).take 64)
def wordsB (l:List Bool):List Nat:=(List.range ((l.length+63)/64)).map (wordB l)
theorem wordsB_len (l:List Bool):(wordsB l).length=(l.length+63)/64:=by simp [wordsB]
theorem wordsB_get {l:List Bool} {w:Nat} (h:w<(l.length+63)/64):(wordsB l).getD w 0=wordB l w:=by simp [wordsB,List.getD,h]
theorem wordB_lt (l:List Bool) (w:Nat):wordB l w<2 ^ 64:=by
 refine Nat.lt_of_lt_of_le (bitsN_lt _) (Nat.pow_le_pow_right (by decide) ?_)
 rw [List.length_take]; omega
theorem wordB_testBit {l:List Bool} {w j:Nat} (hj:j<64):(wordB l w).testBit j=l.getD (64*w+j) false:=by
 unfold wordB
 rw [bitsN_testBit,List.getD_eq_getElem?_getD,List.getD_eq_getElem?_getD,List.getElem?_take,if_pos hj,List.getElem?_drop]
theorem wordB_set {l:List Bool} {x:Nat} (h:x<l.length) (w:Nat):wordB (l.set x true) w=if w=x/64 then wordB l w ||| 2 ^ (x%64) else wordB l w:=by
 refine Nat.eq_of_testBit_eq fun j=>?_
 by_cases hj:j<64
 ·rw [wordB_testBit hj]
  split
  ·rename_i e
   rw [Nat.testBit_or,wordB_testBit hj,Nat.testBit_two_pow]
   by_cases e2:x=64*w+j
   ·have e3:x%64=j:=by omega
    rw [← e2]
    simp [List.getD,h,e3]
   ·have e3:¬ x%64=j:=by omega
    simp [List.getD,List.getElem?_set_ne e2,e3]
  ·rename_i e
   rw [wordB_testBit hj]
   have e2:x≠64*w+j:=by omega
   simp [List.getD,List.getElem?_set_ne e2]
 ·have big:∀ m,m<2 ^ 64→m.testBit j=false:=fun m hm=>Nat.testBit_lt_two_pow (Nat.lt_of_lt_of_le hm (Nat.pow_le_pow_right (by decide) (by omega)))
  rw [big _ (wordB_lt _ _)]
  split
  ·rw [Nat.testBit_or,big _ (wordB_lt _ _),Nat.testBit_two_pow]
   have:¬ x%64=j:=by omega
   simp [this]
  ·rw [big _ (wordB_lt _ _)]
theorem wordsB_set {l:List Bool} {x:Nat} (h:x<l.length):wordsB (l.set x true)=(wordsB l).set (x/64) (wordB l (x/64) ||| 2 ^ (x%64)):=by
 refine List.ext_getElem (by simp [wordsB_len]) fun i h1 h2=>?_
 rw [List.getElem_set]
 simp only [wordsB,List.getElem_map,List.getElem_range]
 rw [wordB_set h]
 by_cases e:i=x/64
 ·subst e; simp
 ·rw [if_neg e,if_neg (fun q=>e q.symm)]
theorem wordsB_zero (n:Nat):wordsB (List.replicate n false)=List.replicate ((n+63)/64) 0:=by
 unfold wordsB
 refine List.ext_getElem (by simp) fun i h1 h2=>?_
 simp only [List.getElem_map,List.getElem_range,List.getElem_replicate]
 unfold wordB
 rw [List.drop_replicate,List.take_replicate]
 exact bitsN_zero _
def bytesW (w:Nat):List Nat:=(List.range 8).map fun i=>w/256 ^ i%256
theorem bytesW_len (w:Nat):(bytesW w).length=8:=by simp [bytesW]
theorem bytesW_testBit {w i b:Nat} (hb:b<8):(w/256 ^ i%256).testBit b=w.testBit (8*i+b):=by
 rw [show (256:Nat)=2 ^ 8 from rfl,← Nat.pow_mul,Nat.testBit_mod_two_pow,Nat.testBit_div_two_pow]
 simp [hb,Nat.add_comm]
theorem bytesW_inj {w v:Nat} (hw:w<2 ^ 64) (hv:v<2 ^ 64) (h:bytesW w=bytesW v):w=v:=by
 refine Nat.eq_of_testBit_eq fun j=>?_
 by_cases hj:j<64
 ·have hi:j/8<8:=by omega
  have e:=congrArg (fun l:List Nat=>l.getD (j/8) 0) h
  simp only [bytesW,List.getD_eq_getElem?_getD,List.getElem?_map,List.getElem?_range hi,Option.map_some,Option.getD_some] at e
  have e2:=congrArg (fun m:Nat=>m.testBit (j%8)) e
  rw [bytesW_testBit (Nat.mod_lt _ (by decide)),bytesW_testBit (Nat.mod_lt _ (by decide)),Nat.div_add_mod] at e2
  exact e2
 ·have big:∀ m,m<2 ^ 64→m.testBit j=false:=fun m hm=>Nat.testBit_lt_two_pow (Nat.lt_of_lt_of_le hm (Nat.pow_le_pow_right (by decide) (by omega)))
  rw [big _ hw,big _ hv]
def keyB (ws:List Nat):List Nat:=ws.flatMap bytesW
theorem keyB_inj:∀ {ws vs:List Nat},(∀ w∈ws,w<2 ^ 64)→(∀ w∈vs,w<2 ^ 64)→ws.length=vs.length→keyB ws=keyB vs→ws=vs
 | [],[],_,_,_,_=>rfl
 | w::ws,v::vs,hw,hv,hl,h=>by
  unfold keyB at h
  rw [List.flatMap_cons,List.flatMap_cons] at h
  obtain ⟨h1,h2⟩:=List.append_inj h (by rw [bytesW_len,bytesW_len])
  rw [bytesW_inj (hw w (by simp)) (hv v (by simp)) h1,keyB_inj (fun x hx=>hw x (by simp [hx])) (fun x hx=>hv x (by simp [hx])) (by simpa using hl) h2]
theorem wordsB_lt (l:List Bool):∀ w∈wordsB l,w<2 ^ 64:=fun w hw=>by
 obtain ⟨i,_,rfl⟩:=List.mem_map.1 hw
 exact wordB_lt _ _
theorem wordsB_inj {l m:List Bool} (hl:l.length=m.length) (h:wordsB l=wordsB m):l=m:=by
 refine List.ext_getElem hl fun i h1 h2=>?_
 have hi:i/64<(l.length+63)/64:=by omega
 have e:=congrArg (fun q:List Nat=>(q.getD (i/64) 0).testBit (i%64)) h
 rw [wordsB_get hi,wordsB_get (by omega),wordB_testBit (Nat.mod_lt _ (by decide)),wordB_testBit (Nat.mod_lt _ (by decide)),Nat.div_add_mod] at e
 simpa [List.getD,h1,h2] using e
theorem key_inj {l m:List Bool} (hl:l.length=m.length) (h:keyB (wordsB l)=keyB (wordsB m)):l=m :=
 wordsB_inj hl (keyB_inj (wordsB_lt l) (wordsB_lt m) (by rw [wordsB_len,wordsB_len,hl]) h)
theorem bit_at (l:List Bool) (x:Nat):wordB l (x/64)/2 ^ (x%64) &&& 1=if l.getD x false=true then 1 else 0:=by
 have h:=wordB_testBit (l:=l) (w:=x/64) (j:=x%64) (Nat.mod_lt _ (by decide))
 rw [Nat.div_add_mod,Nat.testBit_eq_decide_div_mod_eq] at h
 rw [Nat.and_one_is_mod]
 cases hb:l.getD x false with
 | true =>
  rw [hb] at h
  rw [if_pos rfl]; exact of_decide_eq_true h
 | false =>
  rw [hb] at h
  have:=of_decide_eq_false h
  rw [if_neg (by decide)]; omega
theorem keyB_snoc (ws:List Nat) (w:Nat):keyB (ws++[w])=keyB ws++bytesW w:=by simp [keyB]
theorem bytesW_take (w i:Nat) (h:i<8):(bytesW w).take (i+1)=(bytesW w).take i++[w/256 ^ i%256]:=by
 rw [List.take_add_one]
 simp [bytesW,h]
theorem keyB_len (ws:List Nat):(keyB ws).length=8*ws.length:=by
 induction ws with
 | nil=>rfl
 | cons w ws ih=>unfold keyB at *; rw [List.flatMap_cons,List.length_append,bytesW_len,ih,List.length_cons]; omega
def memB (l:List Bool) (n:Nat):List Nat:=(List.range n).filter fun x=>l.getD x false
theorem memB_succ (l:List Bool) (n:Nat):memB l (n+1)=memB l n++if l.getD n false then [n] else []:=by
 unfold memB
 rw [List.range_succ,List.filter_append]
 congr 1
 by_cases h:l.getD n false=true
 ·rw [if_pos h,List.filter_cons,if_pos h]; rfl
 ·rw [if_neg h,List.filter_cons,if_neg h]; rfl
def setOf (n:Nat) (xs:List Nat):List Bool:=xs.foldl (fun l x=>l.set x true) (List.replicate n false)
theorem setOf_snoc (n:Nat) (xs:List Nat) (x:Nat):setOf n (xs++[x])=(setOf n xs).set x true:=by simp [setOf]
theorem setOf_len (n:Nat) (xs:List Nat):(setOf n xs).length=n:=by
 unfold setOf
 have key:∀ (xs:List Nat) (l:List Bool),(xs.foldl (fun l x=>l.set x true) l).length=l.length:=by
  intro xs
  induction xs with
  | nil=>intro l; rfl
  | cons x xs ih=>intro l; rw [List.foldl_cons,ih,List.length_set]
 rw [key,List.length_replicate]
theorem setOf_get {n:Nat} {xs:List Nat} {v:Nat} (hv:v<n):(setOf n xs).getD v false=decide (v∈xs):=by
 unfold setOf
 have key:∀ (xs:List Nat) (l:List Bool),l.length=n→(xs.foldl (fun l x=>l.set x true) l).getD v false=(l.getD v false||decide (v∈xs)):=by
  intro xs
  induction xs with
  | nil=>intro l _; simp
  | cons x xs ih =>
   intro l hl
   rw [List.foldl_cons,ih _ (by rw [List.length_set]; exact hl)]
   by_cases e:x=v
   ·subst e; simp [List.getD,hl,hv]
   ·have e2:¬ v=x:=fun q=>e q.symm
    simp [List.getD,List.getElem?_set_ne e,e2]
 rw [key _ _ (by simp)]
 simp [List.getD,hv]
theorem setOf_all (n:Nat):setOf n (List.range n)=List.replicate n true:=by
 refine List.ext_getElem (by rw [setOf_len,List.length_replicate]) fun i h1 h2=>?_
 rw [setOf_len] at h1
 have:=setOf_get (n:=n) (xs:=List.range n) h1
 rw [List.getD_eq_getElem?_getD,List.getElem?_eq_getElem (by rw [setOf_len]; exact h1),Option.getD_some] at this
 rw [this]; simp [h1]
def updM (M:Int→Option Int) (p x:Int):Int→Option Int:=fun q=>if q=p then some x else M q
def numM (p:Nat→Int):Nat→(Int→Option Int)×Nat
 | 0=>(fun _=>none,0)
 | k+1=>if ((numM p k).1 (p k)).isSome then numM p k else (updM (numM p k).1 (p k) ((numM p k).2:Int),(numM p k).2+1)
def numO (p:Nat→Int) (k:Nat):Int:=((numM p (k+1)).1 (p k)).getD 0
theorem numM_size (p:Nat→Int):∀ k,(numM p k).2≤k
 | 0=>Nat.le_refl _
 | k+1=>by
  have:=numM_size p k
  simp only [numM]; split<;>simp<;>omega
theorem numM_keep (p:Nat→Int) {q x:Int} (k:Nat) (h:(numM p k).1 q=some x):∀ d,(numM p (k+d)).1 q=some x
 | 0=>h
 | d+1=>by
  have ih:=numM_keep p k h d
  show (numM p (k+d+1)).1 q=some x
  simp only [numM]
  split
  ·exact ih
  ·next hn =>
   show updM _ _ _ q=some x
   unfold updM
   by_cases e:q=p (k+d)
   ·subst e; rw [ih] at hn; exact absurd rfl hn
   ·rw [if_neg e]; exact ih
theorem numM_own (p:Nat→Int) (k:Nat):(numM p (k+1)).1 (p k)=some (numO p k):=by
 unfold numO
 have:((numM p (k+1)).1 (p k)).isSome:=by
  simp only [numM]
  split
  ·next h=>exact h
  ·simp [updM]
 obtain ⟨x,hx⟩:=Option.isSome_iff_exists.1 this
 rw [hx]; rfl
theorem numM_below (p:Nat→Int):∀ k q x,(numM p k).1 q=some x→0≤x∧x<(numM p k).2
 | 0,q,x,h=>by cases h
 | k+1,q,x,h=>by
  have ih:=numM_below p k q x
  simp only [numM] at h ⊢
  split at h
  ·next hs=>rw [if_pos hs]; exact ih h
  ·next hs =>
   rw [if_neg hs]
   simp only [updM] at h ⊢
   by_cases e:q=p k
   ·rw [if_pos e] at h; injection h with h; omega
   ·rw [if_neg e] at h; have:=ih h; omega
theorem numM_inj (p:Nat→Int):∀ k q q' x,(numM p k).1 q=some x→(numM p k).1 q'=some x→q=q'
 | 0,q,q',x,h,_=>by cases h
 | k+1,q,q',x,h,h'=>by
  have ih:=numM_inj p k q q' x
  simp only [numM] at h h'
  split at h
  ·next hs=>rw [if_pos hs] at h'; exact ih h h'
  ·next hs =>
   rw [if_neg hs] at h'
   simp only [updM] at h h'
   by_cases e:q=p k<;>by_cases e':q'=p k
   ·rw [e,e']
   ·rw [if_pos e] at h; rw [if_neg e'] at h'
    have:=numM_below p k q' x h'
    injection h with h; omega
   ·rw [if_neg e] at h; rw [if_pos e'] at h'
    have:=numM_below p k q x h
    injection h' with h'; omega
   ·rw [if_neg e] at h; rw [if_neg e'] at h'; exact ih h h'
theorem numO_eq (p:Nat→Int) (i j:Nat):numO p i=numO p j↔p i=p j:=by
 have key:∀ i d,(numM p (i+1+d)).1 (p i)=some (numO p i):=fun i d=>numM_keep p (i+1) (numM_own p i) d
 have hi:=key i j
 have hj:=key j i
 rw [show j+1+i=i+1+j by omega] at hj
 constructor
 ·intro h; rw [h] at hi; exact numM_inj p _ _ _ _ hi hj
 ·intro h; rw [h] at hi; rw [hi] at hj; injection hj
def PartsOf (n:Nat) (adj:Nat→List Nat) (ps:List Int):Prop :=
 ∃ p:Nat→Int,(∀ x y,x<n→y<n→(p x=p y↔Goes adj x y∧Goes adj y x))∧ps=(List.range n).map (numO p)
theorem PartsOf.len {n:Nat} {adj:Nat→List Nat} {ps:List Int} (h:PartsOf n adj ps):ps.length=n:=by
 obtain ⟨p,_,rfl⟩:=h; simp
theorem PartsOf.eq {n:Nat} {adj:Nat→List Nat} {ps:List Int} (h:PartsOf n adj ps) {x y:Nat} (hx:x<n) (hy:y<n):ps.getD x 0=ps.getD y 0↔Goes adj x y∧Goes adj y x:=by
 obtain ⟨p,hp,rfl⟩:=h
 simp only [List.getD_eq_getElem?_getD,List.getElem?_map,List.getElem?_range hx,List.getElem?_range hy,Option.map_some,Option.getD_some]
 rw [numO_eq,hp x y hx hy]
open Go.RowKit Go.Maps Go.WideMaps
set_option maxRecDepth 100000
theorem uMapB:Tryz.prog.underlying 229=some (.map 9 3):=by kernel_rfl
theorem keyedB:Keyed Tryz.prog 9:=string_keyed uStr
theorem zeroB (w:World):(zeroValue 3).run Tryz.prog w=.ok (.int .i64 0) w:=by kernel_rfl
def heldB (v:Value):Option (DataW Value×List MemPlace):=some (.held v,[])
def numsK (ws:List Nat):List Int:=(keyB ws).map fun n:Nat=>(n:Int)
def txtK (ws:List Nat):ByteArray:=strOfNums (numsK ws)
def keyK (ws:List Nat):Lit:=.string (txtK ws).data.toList
theorem txtK_size (ws:List Nat):(txtK ws).size=8*ws.length:=by
 unfold txtK; rw [strOfNums_size]; unfold numsK; rw [List.length_map,keyB_len]
theorem keyK_of {ws:List Nat} (h:ws.length≤4096):keyOf Tryz.prog 9 (.string (txtK ws))=some (keyK ws):=keyOf_string_mk uStr (by rw [txtK_size]; unfold maxLen; omega)
theorem keyB_byte (ws:List Nat):∀ b∈keyB ws,b<256:=fun b hb=>by
 unfold keyB at hb
 obtain ⟨w,_,hb⟩:=List.mem_flatMap.1 hb
 unfold bytesW at hb
 obtain ⟨i,_,rfl⟩:=List.mem_map.1 hb
 exact Nat.mod_lt _ (by decide)
theorem keyK_inj {l m:List Bool} (hl:l.length=m.length) (h:keyK (wordsB l)=keyK (wordsB m)):l=m:=by
 have h2:(txtK (wordsB l)).data.toList=(txtK (wordsB m)).data.toList:=by injection h
 unfold txtK at h2
 rw [strOfNums_data,strOfNums_data] at h2
 unfold numsK at h2
 rw [List.map_map,List.map_map] at h2
 have key:∀ (a b:List Nat),(∀ x∈a,x<256)→(∀ x∈b,x<256)→a.map ((fun n:Int=>UInt8.ofNat n.toNat) ∘ fun n:Nat=>(n:Int))=b.map ((fun n:Int=>UInt8.ofNat n.toNat) ∘ fun n:Nat=>(n:Int))→a=b:=by
  intro a
  induction a with
  | nil =>
   intro b _ _ h
   cases b with
   | nil=>rfl
   | cons _ _=>simp at h
  | cons p a ih =>
   intro b ha hb h
   cases b with
   | nil=>simp at h
   | cons q b =>
    rw [List.map_cons,List.map_cons] at h
    injection h with h1 h2
    have e1:=ha p List.mem_cons_self
    have e2:=hb q List.mem_cons_self
    have:p=q:=by
     have h3:=congrArg UInt8.toNat h1
     simp only [Function.comp,UInt8.toNat_ofNat',Int.toNat_natCast] at h3
     omega
    rw [this,ih b (fun z hz=>ha z (List.mem_cons_of_mem _ hz)) (fun z hz=>hb z (List.mem_cons_of_mem _ hz)) h2]
 exact key_inj hl (key _ _ (keyB_byte _) (keyB_byte _) h2)
def BagMap (w:World) (b n:Nat) (sets:List (List Bool)):Prop :=
 ∃ D:DataW Value,w.ownsMap Tryz.prog 9 heldB b sets.length D∧(∀ y,y.length=n→(Maps.has D (keyK (wordsB y))=true↔y∈sets))∧∀ i,i<sets.length→D.atKey (keyK (wordsB (sets.getD i []))) (.held (.int .i64 0))=.held (.int .i64 (i:Nat))
theorem BagMap.made (w:World) (n:Nat):BagMap (w.alloc (.map #[] 0)) w.heap.size n [] :=
 ⟨_,World.ownsMap_made w Tryz.prog 9 _,fun y _=>⟨fun h=>(by cases h),fun h=>(by cases h)⟩,fun i hi=>absurd hi (Nat.not_lt_zero _)⟩
section
variable {w:World} {b n:Nat} {sets:List (List Bool)}
theorem BagMap.blk (h:BagMap w b n sets):∃ es c,w.heap[b]?=some (.map es c):=by
 obtain ⟨D,⟨es,c,hb,_⟩,_⟩:=h
 exact ⟨es,c,hb⟩
theorem BagMap.lt (h:BagMap w b n sets):b<w.heap.size:=by
 obtain ⟨D,h1,_⟩:=h
 exact h1.lt
theorem BagMap.below {w':World} (h:BagMap w b n sets) (hb:Below w.heap.size w w'):BagMap w' b n sets:=by
 obtain ⟨D,h1,h2⟩:=h
 refine ⟨D,?_,h2⟩
 have hlt:=h1.lt
 obtain ⟨es,clock,hb',F,hs,hD⟩:=h1
 exact ⟨es,clock,(hb.block b hlt).trans hb',F,hs,hD⟩
theorem BagMap.kept {w':World} {row:Option Nat} (h:BagMap w b n sets) (hg:w.grownBy w' row) (hne:some b≠row):BagMap w' b n sets:=by
 obtain ⟨D,h1,h2⟩:=h
 exact ⟨D,h1.kept hg hne,h2⟩
theorem BagMap.hit (h:BagMap w b n sets) {y:List Bool} (hm:y∈sets) (hl:y.length=n) (hn:n≤4096) :
 (Instr.lookup 229 (.map (some b)) (.string (txtK (wordsB y))) true).run Tryz.prog w=.ok (.tuple #[.int .i64 (sets.idxOf y:Nat),.bool true]) w:=by
 obtain ⟨D,h1,h2,h3⟩:=h
 have hk:=List.idxOf_lt_length_of_mem hm
 have e0:sets.getD (sets.idxOf y) []=y:=by
  rw [List.getD_eq_getElem?_getD,List.getElem?_eq_getElem hk,Option.getD_some]
  exact List.getElem_idxOf hk
 have h4:=h3 _ hk
 rw [e0] at h4
 obtain ⟨v,ps,hr,hv⟩:=h1.look_ok keyedB uMapB (zeroB w) (zd:=.held (.int .i64 0)) (zp:=[]) rfl (keyK_of (ws:=wordsB y) (by rw [wordsB_len]; omega))
 rw [h4] at hv
 unfold heldB at hv
 have e1:=Option.some.inj hv
 have e2:DataW.held v=DataW.held (Value.int .i64 (sets.idxOf y:Nat)):=congrArg Prod.fst e1
 have e:v=Value.int .i64 (sets.idxOf y:Nat):=by injection e2
 rw [hr,e,(h2 _ hl).2 hm]
theorem BagMap.miss (h:BagMap w b n sets) {y:List Bool} (hm:y∉sets) (hl:y.length=n) (hn:n≤4096) :
 ∃ v,(Instr.lookup 229 (.map (some b)) (.string (txtK (wordsB y))) true).run Tryz.prog w=.ok (.tuple #[v,.bool false]) w:=by
 obtain ⟨D,h1,h2,h3⟩:=h
 obtain ⟨v,ps,hr,hv⟩:=h1.look_ok keyedB uMapB (zeroB w) (zd:=.held (.int .i64 0)) (zp:=[]) rfl (keyK_of (ws:=wordsB y) (by rw [wordsB_len]; omega))
 have:Maps.has D (keyK (wordsB y))=false:=by
  cases hh:Maps.has D (keyK (wordsB y)) with
  | false=>rfl
  | true=>exact absurd ((h2 y hl).1 hh) hm
 exact ⟨v,by rw [hr,this]⟩
theorem BagMap.store (h:BagMap w b n sets) {y:List Bool} (hm:y∉sets) (hl:y.length=n) (hn:n≤4096) (hall:∀ x∈sets,x.length=n) (hj:sets.length<100000) :
 ∃ w',(Instr.mapUpdate 229 (.map (some b)) (.string (txtK (wordsB y))) (.int .i64 (sets.length:Nat))).run Tryz.prog w=.ok () w'∧BagMap w' b n (sets++[y])∧w.grownBy w' (some b):=by
 obtain ⟨D,h1,h2,h3⟩:=h
 have hI:=h1.isMap
 have hkey:=keyK_of (ws:=wordsB y) (by rw [wordsB_len]; omega)
 obtain ⟨w',hr,ho,hg⟩:=h1.update keyedB uMapB (by unfold maxLen; omega) hkey (val:=.int .i64 (sets.length:Nat)) (d:=.held (.int .i64 (sets.length:Nat))) (ps:=[]) rfl
 have hkl:WideAt.IsKeyLit (keyK (wordsB y)):=keyedB.key hkey
 refine ⟨w',hr,⟨_,by rw [List.length_append,List.length_singleton]; exact ho,fun z hz=>?_,fun i hi=>?_⟩,hg⟩
 ·by_cases e:z=y
  ·subst e
   exact ⟨fun _=>by simp,fun _=>Maps.has_put_same hI hkl _⟩
  ·have hne:keyK (wordsB z)≠keyK (wordsB y):=fun h=>e (keyK_inj (by rw [hz,hl]) h)
   rw [Maps.has_put_other hne,h2 z hz]
   simp [e]
 ·rw [List.length_append,List.length_singleton] at hi
  by_cases e:i=sets.length
  ·subst e
   have e2:(sets++[y]).getD sets.length []=y:=by simp [List.getD]
   rw [e2,Maps.atKey_put_same hI hkl]
  ·have hi2:i<sets.length:=by omega
   have e2:(sets++[y]).getD i []=sets.getD i []:=by simp [List.getD,List.getElem?_append_left hi2]
   have hmem:sets.getD i []∈sets:=by
    rw [List.getD_eq_getElem?_getD,List.getElem?_eq_getElem hi2,Option.getD_some]
    exact List.getElem_mem hi2
   have hne:keyK (wordsB (sets.getD i []))≠keyK (wordsB y):=fun h=>hm (keyK_inj (by rw [hall _ hmem,hl]) h▸hmem)
   rw [e2,Maps.atKey_put_other hne]
   exact h3 i hi2
end
theorem Rows.mapB {B:Nat} {w w':World} {f:Names} {b:Nat} {es:Array MapEntry} {c:Nat} (h:Rows B w f) (hb:w.heap[b]?=some (.map es c)) (hg:w.grownBy w' (some b)):Rows B w' f :=
 ⟨fun i r hi=>(by
   have ho:=h.1 i r hi
   refine World.ownsRow.kept ho hg ?_
   rcases ho.2 with ⟨e,_⟩ | ⟨g,cap,cur,e,_,hh,_⟩
   ·left; rw [e]; rfl
   ·right; rw [e]; intro q
    have:g=b:=by injection q
    subst this; rw [hh] at hb; cases hb),h.2⟩
end Go.Proofs.YtncpnaoabkjegaaGreatDoor
namespace Go.Proofs.YtncpnaoabkjegaaGreatDoor
open Go.RowKit
set_option maxRecDepth 100000
set_option maxHeartbeats 8000000
theorem oneWords:OneCell 233 272 (.int .u64 0) 8:=⟨by kernel_rfl,by kernel_rfl,rfl,by decide,fun _=>by kernel_rfl⟩
theorem take_snocN (l:List Nat) (i:Nat) (h:i<l.length):l.take (i+1)=l.take i++[l[i]]:=by
 rw [List.take_add_one]; simp [h]
def wordsV (ws:List Nat):List Value:=ws.map fun n:Nat=>Value.int .u64 (n:Int)
def byteN (ns:List Nat):List Value:=ns.map fun n:Nat=>Value.int .u8 (n:Int)
theorem wordsV_len (ws:List Nat):(wordsV ws).length=ws.length:=by simp [wordsV]
theorem byteN_snoc (ns:List Nat) (n:Nat):byteN (ns++[n])=byteN ns++[.int .u8 (n:Int)]:=by simp [byteN]
theorem conv_key (B:Nat) (w:World) (v:Value) (ws:List Nat) (h:OwnV 5 B w v (byteN (keyB ws))) (h1:1≤ws.length):(convert 218 9 v).run Tryz.prog w=.ok (.string (txtK ws)) w:=by
 have hl:(byteN (keyB ws)).length=(numsK ws).length:=by simp [byteN,numsK]
 have hp:(numsK ws).length=8*ws.length:=by unfold numsK; rw [List.length_map,keyB_len]
 rcases h.2 with ⟨rfl,hn⟩ | ⟨g,cap,cur,rfl,hb,hg,hn,hm,hs,ht⟩
 ·omega
 ·refine run_convert_bytes_arg (P:=Tryz.prog) w 218 5 oneBytes.ht uByte g 0 (byteN (keyB ws)).length cap (numsK ws) hl.symm (fun i hi=>?_) 9 uStr
  have:=h.at.cell i hi
  rw [valAt_row] at this
  rw [Nat.zero_add,this]
  have hi2:i<(keyB ws).length:=by rw [hl] at hi; unfold numsK at hi; rwa [List.length_map] at hi
  simp [byteN,numsK,List.getD,hi2]
theorem bag_key (v:Value) (ws:List Nat) (w:World) (h:ValsAt w v (wordsV ws)) (h1:1≤ws.length) (hl:ws.length≤64) (hw:∀ x∈ws,x<2 ^ 64) :
 Calls Tryz.prog 212 #[v] w (Ret1 (fun x _=>x=.string (txtK ws)) w):=by
 obtain ⟨va,vn,vc,rfl⟩:∃ a n c,v=.slice a n c:=(by obtain ⟨a,c,e,_⟩:=h; exact ⟨a,_,c,e⟩)
 have l1:=h.len oneWords
 rw [wordsV_len] at l1
 replace h:=Hd h
 replace hw:=Hd hw
 go_enter Tryz.func212,Tryz.ntmps212
 go_wp2_with (at_make; refine wpl_makeV0 oneBytes rfl _ _ rfl (8*ws.length) rfl (by go_num) (by omega) ?_)
 intro bv w2 ho2 b2
 replace ho2:=Hd ho2
 go_wp2_with fail
 go_loopw [3,12] (fun ov iv wr=>∃ (i:Nat) (ow:Value),ow=ov∧iv=.int .i64 i∧i≤ws.length∧OwnV 5 w.heap.size wr ow (byteN (keyB (ws.take i)))∧Below w.heap.size w wr) (fun _ iv _=>ws.length-(intOf iv).toNat)
 case atStart=>exact ⟨0,_,rfl,rfl,Nat.zero_le _,ho2.out,b2⟩
 case round =>
  obtain ⟨i,ow,rfl,rfl,hi,hO,hB⟩:=hrel
  obtain ⟨wo,rfl⟩:∃ wo:World,wo=wr:=⟨_,rfl⟩
  by_cases hil:i<ws.length
  ·have di:decide ((i:Int)<(ws.length:Int))=true:=decide_eq_true (by omega)
   have hv:=h.out.below hB
   have iX:=fun w'=>hv.idx oneWords i (by rw [wordsV_len]; exact hil) w'
   have cX:=hv.cell i (by rw [wordsV_len]; exact hil)
   have ex:(wordsV ws)[i]'(by rw [wordsV_len]; exact hil)=.int .u64 ((ws[i]:Nat):Int):=by simp [wordsV]
   rw [ex] at cX
   have hxb:=hw.out ws[i] (List.getElem_mem hil)
   have htk:keyB (ws.take (i+1))=keyB (ws.take i)++bytesW ws[i]:=by
    rw [take_snocN ws i hil,keyB_snoc]
   obtain ⟨x,hx⟩:∃ x,ws[i]=x:=⟨_,rfl⟩
   rw [hx] at cX hxb htk
   obtain ⟨xa,hxa⟩:∃ xa,valAt (.slice va vn vc) i=xa:=⟨_,rfl⟩
   rw [hxa] at iX cX
   have hlt:(keyB (ws.take i)).length≤512:=by rw [keyB_len,List.length_take]; omega
   obtain ⟨ns,hns⟩:∃ ns,keyB (ws.take i)=ns:=⟨_,rfl⟩
   rw [hns] at htk hO hlt
   replace hx:=Hd hx
   replace hxa:=Hd hxa
   replace hv:=Hd hv
   replace htk:=Hd htk
   replace hns:=Hd hns
   replace hxb:=Hd hxb
   replace hO:=Hd hO
   clear ex
   go_wp2
   go_loopw [3,5,16] (fun ov cv jv wr=>∃ (j c:Nat) (ow:Value),ow=ov∧cv=.int .u64 (c:Int)∧jv=.int .i64 j∧j≤8∧c=x/256 ^ j∧OwnV 5 w.heap.size wr ow (byteN (ns++(bytesW x).take j))∧Below w.heap.size w wr) (fun _ _ jv _=>8-(intOf jv).toNat)
   case atStart=>exact ⟨0,x,_,rfl,rfl,rfl,by omega,by simp,by simpa using hO.out,hB⟩
   case round =>
    obtain ⟨j,c,pw,rfl,rfl,rfl,hj,hc,hP,hBj⟩:=hrel
    obtain ⟨wj,rfl⟩:∃ wj:World,wj=wr:=⟨_,rfl⟩
    by_cases hjl:j<8
    ·have dj:decide ((j:Int)<8)=true:=decide_eq_true (by omega)
     have hBs:=hBj.size
     have hcb:c<2 ^ 64:=by rw [hc]; exact Nat.lt_of_le_of_lt (Nat.div_le_self _ _) hxb.out
     have hse:byteN (ns++(bytesW x).take (j+1))=byteN (ns++(bytesW x).take j)++[.int .u8 ((c%256:Nat):Int)]:=by
      rw [bytesW_take x j hjl,← List.append_assoc,byteN_snoc,hc]
     have hlm:(byteN (ns++(bytesW x).take j)).length<4398046511104:=by
      simp [byteN,bytesW_len]; omega
     have wr8:IntKind.u8.wrap (c:Int)=((c%256:Nat):Int):=by simp [IntKind.wrap,IntKind.signed,IntKind.bits]
     have hdv:(c:Int)/256=((c/256:Nat):Int):=by omega
     have hc2:c/256=x/256 ^ (j+1):=by rw [hc,Nat.div_div_eq_div_mul,Nat.pow_succ]
     obtain ⟨m,hm⟩:∃ m,c%256=m:=⟨_,rfl⟩
     rw [hm] at wr8 hse
     obtain ⟨d,hd⟩:∃ d,c/256=d:=⟨_,rfl⟩
     rw [hd] at hdv hc2
     replace hm:=Hd hm
     replace hd:=Hd hd
     replace hc:=Hd hc
     replace hc2:=Hd hc2
     replace hse:=Hd hse
     go_wp2_with (at_builtin; go_loud (refine wpl_appV oneBytes rfl _ _ rfl w.heap.size pw _ (.int .u8 (m:Int)) rfl hP rfl rfl hlm hBs ?_))
     intro v' w7 ho7 b7
     rw [← hse.out] at ho7
     replace ho7:=Hd ho7
     clear hP
     go_wp2
     go_roundw
     case measure=>simp [intOf]; omega
     case rel=>exact ⟨j+1,d,_,rfl,by simp,by go_num,by omega,hc2.out,ho7.out,hBj.trans b7⟩
    ·obtain rfl:j=8:=by omega
     have e8:(bytesW x).take 8=bytesW x:=List.take_of_length_le (by rw [bytesW_len]; exact Nat.le_refl _)
     rw [e8,← htk.out] at hP
     replace hP:=Hd hP
     have dj:decide (((8:Nat):Int)<8)=false:=by decide
     go_wp2
     go_roundw
     case measure=>simp [intOf]; omega
     case rel=>exact ⟨i+1,_,rfl,by go_num,by omega,hP.out,hBj⟩
  ·have di:decide ((i:Int)<(ws.length:Int))=false:=decide_eq_false (by omega)
   obtain rfl:i=ws.length:=by omega
   rw [List.take_length] at hO
   have hc:=conv_key w.heap.size wo ow ws hO h1
   obtain ⟨oa,on,oc,rfl⟩:=hO.shape
   replace hO:=Hd hO
   go_wp2
   go_ret
   exact ⟨_,rfl,hB,rfl⟩
def natI (xs:List Nat):List Int:=xs.map fun n:Nat=>(n:Int)
theorem natI_len (xs:List Nat):(natI xs).length=xs.length:=by simp [natI]
theorem natI_at {xs:List Nat} {i:Nat} (h:i<xs.length):(natI xs).getD i 0=((xs[i]:Nat):Int):=by simp [natI,List.getD,h]
theorem wordsV_set (ws:List Nat) (k x:Nat):(wordsV ws).set k (.int .u64 (x:Int))=wordsV (ws.set k x):=by simp [wordsV,List.map_set]
theorem wordsV_zero (n:Nat):wordsV (List.replicate n 0)=List.replicate n (.int .u64 0):=by simp [wordsV]
theorem or_bit {m j:Nat} (hm:m<2 ^ 64) (hj:j<64):bits BinOp.or IntKind.u64 (m:Int) (IntKind.u64.wrap (2 ^ j))=((m ||| 2 ^ j:Nat):Int):=by
 have hp:2 ^ j<2 ^ 64:=Nat.pow_lt_pow_right (by decide) hj
 have e:IntKind.u64.wrap (2 ^ j)=((2 ^ j:Nat):Int):=by
  have e1:((2:Int) ^ j)=((2 ^ j:Nat):Int):=by norm_cast
  rw [e1]
  simp only [IntKind.wrap,IntKind.signed,IntKind.bits]
  generalize 2 ^ j=a at hp
  simp; omega
 rw [e]
 exact bits_or_u64_nat m (2 ^ j) hm hp
theorem bag_bits (n g:Nat) (v:Value) (xs:List Nat) (w:World) (c0:w.cell? ⟨g,0,none⟩=some (.int .i64 n)) (h:IntsAt w v (natI xs)) (hx:∀ x∈xs,x<n) (hxl:xs.length≤100000) (h1:1≤n) (hn:n≤4096) :
 Calls Tryz.prog 175 #[.pointer (some ⟨g,0,none⟩),v] w (Ret2 (fun x y w'=>y=.nilIface∧OwnV 272 w.heap.size w' x (wordsV (wordsB (setOf n xs)))) w):=by
 have l1:=h.len
 rw [natI_len] at l1
 obtain ⟨va,vn,vc,rfl⟩:=h.shape
 have hg:=World.block_lt_of_cell? _ _ c0
 replace h:=Hd h
 replace hx:=Hd hx
 obtain ⟨q,hq⟩:∃ q,(n+63)/64=q:=⟨_,rfl⟩
 have eq0:((n:Int)+63)/64=(q:Int):=by omega
 have hq64:q≤64:=by omega
 replace hq:=Hd hq
 go_enter Tryz.func175,Tryz.ntmps175
 go_wp2_with (at_make; refine wpl_makeV oneWords rfl _ _ rfl (((n:Int)+63)/64) rfl rfl (by omega) (by omega) ?_)
 intro sv w1 ho1 g1
 have b1:Below w.heap.size w w1:=(Below.refl _ _).grown g1 (Nat.le_refl _) (by intro k hk; cases hk)
 rw [← wordsV_zero,← hq.out,← wordsB_zero] at ho1
 obtain ⟨sa,sn,sc,rfl⟩:=ho1.shape
 replace ho1:=Hd ho1
 go_wp2_with fail
 go_loopw [21] (fun iv wr=>∃ i:Nat,iv=.int .i64 i∧i≤xs.length∧OwnV 272 w.heap.size wr (.slice sa sn sc) (wordsV (wordsB (setOf n (xs.take i))))∧Below w.heap.size w wr) (fun iv _=>xs.length-(intOf iv).toNat)
 case atStart=>exact ⟨0,rfl,Nat.zero_le _,by simpa [setOf] using ho1.out,b1⟩
 case round =>
  obtain ⟨i,rfl,hi,hO,hB⟩:=hrel
  obtain ⟨wo,rfl⟩:∃ wo:World,wo=wr:=⟨_,rfl⟩
  have hgB:=hB.size
  have e0:wo.cell? ⟨g,0,none⟩=some (.int .i64 n):=by rw [hB.cell hg]; exact c0
  by_cases hil:i<xs.length
  ·have di:decide ((i:Int)<(xs.length:Int))=true:=decide_eq_true (by omega)
   have hv:=h.out.below hB
   have iX:=fun w'=>hv.idx i (by rw [natI_len]; exact hil) w'
   have cX:=hv.cellD i (by rw [natI_len]; exact hil)
   rw [natI_at hil] at cX
   have hxn:=hx.out xs[i] (List.getElem_mem hil)
   have htk:setOf n (xs.take (i+1))=(setOf n (xs.take i)).set xs[i] true:=by rw [take_snocN xs i hil,setOf_snoc]
   obtain ⟨x,hxx⟩:∃ x,xs[i]=x:=⟨_,rfl⟩
   rw [hxx] at cX hxn htk
   obtain ⟨xa,hxa⟩:∃ xa,valAt (.slice va vn vc) i=xa:=⟨_,rfl⟩
   rw [hxa] at iX cX
   obtain ⟨l,hl⟩:∃ l,setOf n (xs.take i)=l:=⟨_,rfl⟩
   have hll:l.length=n:=by rw [← hl,setOf_len]
   rw [hl] at htk hO
   have hxll:x<l.length:=by omega
   have hws:wordsV (wordsB (l.set x true))=(wordsV (wordsB l)).set (x/64) (.int .u64 ((wordB l (x/64) ||| 2 ^ (x%64):Nat):Int)):=by rw [wordsB_set hxll,wordsV_set]
   have hk:x/64<(wordsV (wordsB l)).length:=by rw [wordsV_len,wordsB_len]; omega
   have iS:∀ w',(Instr.indexAt 233 (.slice sa sn sc) (.int .i64 ((x:Int)/64))).run Tryz.prog w'=.ok (.pointer (some (valAt (.slice sa sn sc) (x/64)))) w':=by
    intro w'
    have:=hO.at.idx oneWords (x/64) hk w'
    rwa [show ((x/64:Nat):Int)=(x:Int)/64 by omega] at this
   have cS:=hO.at.cell (x/64) hk
   have eS:(wordsV (wordsB l))[x/64]=.int .u64 ((wordB l (x/64):Nat):Int):=by simp [wordsV,wordsB]
   rw [eS] at cS
   have fS:=hO.frz (x/64) hk
   have hO2:=hO.set (x/64) hk (.int .u64 ((wordB l (x/64) ||| 2 ^ (x%64):Nat):Int))
   rw [← hws,← htk] at hO2
   have hB2:=hB.setCell (hO.blkB (x/64) hk).2 (.int .u64 ((wordB l (x/64) ||| 2 ^ (x%64):Nat):Int))
   have dl:decide ((x:Int)<0)=false:=decide_eq_false (by omega)
   have dh:decide ((x:Int)≥(n:Int))=false:=decide_eq_false (by omega)
   have m0:(0:Int)≤(x:Int)%64:=by omega
   have m1:(x:Int)%64≤64:=by omega
   have hwl:=wordB_lt l (x/64)
   obtain ⟨m,hm⟩:∃ m,wordB l (x/64)=m:=⟨_,rfl⟩
   rw [hm] at cS hO2 hB2 hwl
   obtain ⟨aS,haS⟩:∃ aS,valAt (.slice sa sn sc) (x/64)=aS:=⟨_,rfl⟩
   rw [haS] at iS cS fS hO2 hB2
   replace hxx:=Hd hxx
   replace hxa:=Hd hxa
   replace hv:=Hd hv
   replace htk:=Hd htk
   replace hl:=Hd hl
   replace hws:=Hd hws
   replace hm:=Hd hm
   replace haS:=Hd haS
   replace hO2:=Hd hO2
   replace hB2:=Hd hB2
   replace hB:=Hd hB
   clear hO eS hk
   go_wp2
   go_region
   all_goals
    go_wp2
    go_roundw
    case measure=>simp [intOf]; omega
    case rel =>
     have eb:bits BinOp.or IntKind.u64 (m:Int) (IntKind.u64.wrap (2 ^ (x%64)))=((m ||| 2 ^ (x%64):Nat):Int):=or_bit hwl (Nat.mod_lt _ (by decide))
     rw [eb]
     exact ⟨i+1,by go_num,by omega,hO2.out.drew,hB2.out.drew⟩
  ·have di:decide ((i:Int)<(xs.length:Int))=false:=decide_eq_false (by omega)
   obtain rfl:i=xs.length:=by omega
   rw [List.take_length] at hO
   replace hO:=Hd hO
   go_wp2
   go_ret2
   exact ⟨_,_,rfl,hB,rfl,hO.out⟩
theorem oneSets:OneCell 230 233 (.slice none 0 0) 24:=⟨by kernel_rfl,by kernel_rfl,rfl,by decide,fun _=>by kernel_rfl⟩
theorem bag_set (g id:Nat) (at_:Int) (sv:Value) (svs:List Value) (w:World) (c1:w.cell? ⟨g,1,none⟩=some sv) (h:ValsAt w sv svs) (hid:id<svs.length) :
 Calls Tryz.prog 213 #[.pointer (some ⟨g,0,none⟩),.int .i64 id,.int .i64 at_] w (Ret2 (fun x y w'=>x=svs[id]∧y=.nilIface∧w'=w) w):=by
 have l1:=h.len oneSets
 have iX:=fun w'=>h.idx oneSets id hid w'
 have cX:=h.cell id hid
 obtain ⟨va,vn,vc,rfl⟩:∃ a n c,sv=.slice a n c:=(by obtain ⟨a,c,e,_⟩:=h; exact ⟨a,_,c,e⟩)
 obtain ⟨y,hy⟩:∃ y,svs[id]=y:=⟨_,rfl⟩
 rw [hy] at cX ⊢
 have d1:decide ((id:Int)<0)=false:=decide_eq_false (by omega)
 have d2:decide ((id:Int)≥(svs.length:Int))=false:=decide_eq_false (by omega)
 replace h:=Hd h
 replace hy:=Hd hy
 go_enter Tryz.func213,Tryz.ntmps213
 go_wp2
 go_ret2
 exact ⟨_,_,rfl,Below.refl _ _,rfl,rfl,rfl⟩
theorem natI_snoc (xs:List Nat) (x:Nat):natI (xs++[x])=natI xs++[(x:Int)]:=by simp [natI]
theorem and_bit {m j:Nat} (hm:m<2 ^ 64):bits BinOp.and IntKind.u64 ((m:Int)/2 ^ j) 1=((m/2 ^ j &&& 1:Nat):Int):=by
 have e:((m:Int)/2 ^ j)=((m/2 ^ j:Nat):Int):=by norm_cast
 rw [e]
 exact bits_and_u64_nat (m/2 ^ j) 1 (Nat.lt_of_le_of_lt (Nat.div_le_self _ _) hm) (by decide)
theorem bag_Get (n g id:Nat) (sv:Value) (svs:List Value) (l:List Bool) (w:World) (c0:w.cell? ⟨g,0,none⟩=some (.int .i64 n)) (c1:w.cell? ⟨g,1,none⟩=some sv) (h:ValsAt w sv svs) (hid:id<svs.length) (hs:ValsAt w svs[id] (wordsV (wordsB l))) (hl:l.length=n) (hn:n≤4096) :
 Calls Tryz.prog 177 #[.pointer (some ⟨g,0,none⟩),.int .i64 id] w (Ret2 (fun x y w'=>y=.nilIface∧OwnI w.heap.size w' x (natI (memB l n))) w):=by
 obtain ⟨va,vn,vc,hsv⟩:∃ a n c,svs[id]=.slice a n c:=(by obtain ⟨a,c,e,_⟩:=hs; exact ⟨a,_,c,e⟩)
 have hset:=bag_set g id 0 sv svs w c1 h hid
 rw [hsv] at hset hs
 have hg:=World.block_lt_of_cell? _ _ c0
 replace h:=Hd h
 replace hs:=Hd hs
 replace hsv:=Hd hsv
 go_enter Tryz.func177,Tryz.ntmps177
 go_wp2_with fail
 refine hset.mono ?_
 rintro e w1 ⟨_,_,rfl,b1,rfl,rfl,rfl⟩
 go_wp2
 go_loopw [8,23] (fun ov iv wr=>∃ (i:Nat) (ow:Value),ow=ov∧iv=.int .i64 i∧i≤n∧OwnI w1.heap.size wr ow (natI (memB l i))∧Below w1.heap.size w1 wr) (fun _ iv _=>n-(intOf iv).toNat)
 case atStart=>exact ⟨0,_,rfl,rfl,Nat.zero_le _,OwnI.nil _ _,Below.refl _ _⟩
 case round =>
  obtain ⟨i,ow,rfl,rfl,hi,hO,hB⟩:=hrel
  obtain ⟨wo,rfl⟩:∃ wo:World,wo=wr:=⟨_,rfl⟩
  by_cases hil:i<n
  ·have di:decide ((i:Int)<(n:Int))=true:=decide_eq_true (by omega)
   have hv:=hs.out.below hB
   have hk:i/64<(wordsV (wordsB l)).length:=by rw [wordsV_len,wordsB_len]; omega
   have iS:∀ w',(Instr.indexAt 233 (.slice va vn vc) (.int .i64 ((i:Int)/64))).run Tryz.prog w'=.ok (.pointer (some (valAt (.slice va vn vc) (i/64)))) w':=by
    intro w'
    have:=hv.idx oneWords (i/64) hk w'
    rwa [show ((i/64:Nat):Int)=(i:Int)/64 by omega] at this
   have cS:=hv.cell (i/64) hk
   have eS:(wordsV (wordsB l))[i/64]=.int .u64 ((wordB l (i/64):Nat):Int):=by simp [wordsV,wordsB]
   rw [eS] at cS
   have m0:(0:Int)≤(i:Int)%64:=by omega
   have m1:(i:Int)%64≤64:=by omega
   have hwl:=wordB_lt l (i/64)
   have hbit:=bit_at l i
   have hsn:=memB_succ l i
   have hBs:=hB.size
   have hml:(natI (memB l i)).length≤4096:=by
    rw [natI_len]
    exact Nat.le_trans (List.length_filter_le _ _) (by rw [List.length_range]; omega)
   obtain ⟨m,hm⟩:∃ m,wordB l (i/64)=m:=⟨_,rfl⟩
   rw [hm] at cS hwl hbit
   have hab:=and_bit (m:=m) (j:=i%64) hwl
   rw [hbit] at hab
   obtain ⟨aS,haS⟩:∃ aS,valAt (.slice va vn vc) (i/64)=aS:=⟨_,rfl⟩
   rw [haS] at iS cS
   replace hv:=Hd hv
   replace hm:=Hd hm
   replace haS:=Hd haS
   replace hbit:=Hd hbit
   clear hk eS
   cases hb:l.getD i false with
   | true =>
    have ha1:bits BinOp.and IntKind.u64 ((m:Int)/2 ^ (i%64)) 1=1:=by rw [hab,hb]; rfl
    have hn1:natI (memB l (i+1))=natI (memB l i)++[(i:Int)]:=by rw [hsn,hb,if_pos rfl,natI_snoc]
    obtain ⟨M,hM⟩:∃ M,natI (memB l i)=M:=⟨_,rfl⟩
    rw [hM] at hn1 hO hml
    clear hab hsn hb
    replace hM:=Hd hM
    replace hn1:=Hd hn1
    go_wp2_with (at_builtin; refine wpl_append1 rfl _ _ rfl w1.heap.size _ M (i:Int) hO rfl rfl (by omega) hBs ?_)
    intro v' w3 hO3 b3 _ _
    rw [← hn1.out] at hO3
    replace hO3:=Hd hO3
    clear hO
    go_wp2
    go_roundw
    case measure=>simp [intOf]; omega
    case rel=>exact ⟨i+1,_,rfl,by go_num,by omega,hO3.out,hB.trans b3⟩
   | false =>
    have ha1:bits BinOp.and IntKind.u64 ((m:Int)/2 ^ (i%64)) 1=0:=by rw [hab,hb]; rfl
    have hn1:memB l (i+1)=memB l i:=by rw [hsn,hb,if_neg (by decide),List.append_nil]
    rw [← hn1] at hO
    clear hab hsn hb hn1
    replace hO:=Hd hO
    go_wp2
    go_roundw
    case measure=>simp [intOf]; omega
    case rel=>exact ⟨i+1,_,rfl,by go_num,by omega,hO.out,hB⟩
  ·have di:decide ((i:Int)<(n:Int))=false:=decide_eq_false (by omega)
   obtain rfl:i=n:=by omega
   replace hO:=Hd hO
   go_wp2
   go_ret2
   exact ⟨_,_,rfl,hB,rfl,hO.out⟩
end Go.Proofs.YtncpnaoabkjegaaGreatDoor
namespace Go.Proofs.YtncpnaoabkjegaaGreatDoor
open Go.RowKit
set_option maxRecDepth 100000
def GrewIn (v:Value) (w w':World):Prop:=∃ row,w.grownBy w' row∧∀ k,row=some k→v.ownBlock=some k
def ElseSame (f f':Names) (i:Nat×Nat):Prop:=∀ j,j≠i→f' j=f j
theorem wpl_appR {T E:TypeId} {z:Value} {b:Nat} (oc:OneCell T E z b) {w:World} {ops:Array Oper} {rest:List Oper} {o:Oper} {a:Act} {Q:Exit→Act→World→Prop} (hgd:o.guard=none) (s x:Operand)
 (ho:o.op=.call { callee:=.builtin .append,args:=#[s,x],argTypes:=#[T,T] })
 {B:Nat} {f:Names} (hR:Rows B w f) (i:Nat×Nat) (v:Value) (xs:List Value) (hi:f i=some (rowV E v xs)) (y:Value) (hy:y.oneCell'=true) (hs:a.eval s=v) (hx:a.eval x=.slice (some ⟨w.heap.size,0,none⟩) 1 1)
 (hlen:xs.length<4398046511104) (hB:B≤w.heap.size)
 (h:∀ v' w' f',Rows B w' f'→f' i=some (rowV E v' (xs++[y]))→ElseSame f f' i→Below B w w'→GrewIn v w w'→wpList Tryz.prog ops Q rest (a.put o.dst v') w') :
 wpList Tryz.prog ops Q (o::rest) a (w.alloc (.cells #[y] E)):=by
 have hown:=hR.ownV hi
 refine wpList_plain hgd fun K hK=>?_
 have hA:Rows B (w.alloc (.cells #[y] E)) f:=hR.below (belowAlloc w _)
 obtain ⟨v',w',hr,h2,h3⟩:=run_app oc (w.alloc (.cells #[y] E)) B o.type v _ (hown.alloc _) ⟨w.heap.size,0,none⟩ 1 [y] (by simp) (cell_one_new _ _ _) (by simp [hy]) (by simp; omega) (by simp; omega)
 unfold Oper.wp execOp
 simp only [ho,resolve,invoke,builtin,Sem.run_bind,Sem.run_pure,Result.andThen_ok,List.map_toArray,List.map_cons,List.map_nil,hs,hx]
 rw [show ([y]:List Value).length=1 from rfl] at hr
 rw [hr]
 have hal:∀ row,w.grownBy (w.alloc (.cells #[y] E)) row:=fun row=>World.grownBy_alloc w _ row
 obtain ⟨a1,n1,q1,e1⟩:=h2.shape
 obtain ⟨a2,n2,q2,e2⟩:=hown.shape
 rcases h3 with ⟨hroom,hg⟩ | ⟨hk,hg⟩
 ·have hob:=ownBlock_of_room e2 e1 hroom
  have hR':=hA.grown (r':=rowV E v' (xs++[y])) hi hg h2 (.inl hob)
  exact hK _ _ (h v' w' _ hR' (upd_same _ _ _) (fun j e=>upd_ne _ _ e) ((Below.refl _ _).grown ((hal v.ownBlock).trans hg) hB (fun k hk=>(hown.lt k hk).1)) ⟨v.ownBlock,(hal _).trans hg,fun _ hk=>hk⟩)
 ·have hR':=hA.grown (r':=rowV E v' (xs++[y])) hi (grown_any hg _) h2 (.inr ⟨_,hk,Nat.le_refl _⟩)
  exact hK _ _ (h v' w' _ hR' (upd_same _ _ _) (fun j e=>upd_ne _ _ e) ((Below.refl _ _).grown ((hal none).trans hg) hB (by intro k hk; cases hk)) ⟨none,(hal none).trans hg,fun k hk=>by cases hk⟩)
abbrev box3 (T:TypeId) (g:Nat) (cs:List Value):Row:=⟨T,3,.slice (some ⟨g,0,none⟩) 1 1,1,cs⟩
structure BagAt (B:Nat) (w:World) (f:Names) (g b n:Nat) (sets:List (List Bool)) (sv:Value) (svs:List Value):Prop where
 box:f (20,0)=some (box3 232 g [.int .i64 n,sv,.map (some b)])
 out:f (21,0)=some (rowV 233 sv svs)
 len:svs.length=sets.length
 each:∀ i,i<sets.length→f (22,i)=some (rowV 272 (svs.getD i .nilIface) (wordsV (wordsB (sets.getD i []))))
 all:∀ x∈sets,x.length=n
 map:BagMap w b n sets
 blk:B≤b
section
variable {B:Nat} {w:World} {f:Names} {g b n:Nat} {sets:List (List Bool)} {sv:Value} {svs:List Value}
theorem BagAt.cells (h:BagAt B w f g b n sets sv svs) (hR:Rows B w f):w.cell? ⟨g,0,none⟩=some (.int .i64 n)∧w.cell? ⟨g,1,none⟩=some sv∧w.cell? ⟨g,2,none⟩=some (.map (some b)) :=
 ⟨hR.cell h.box (g:=g) (cap:=1) rfl 0 (show 0<1*3 by decide),hR.cell h.box (g:=g) (cap:=1) rfl 1 (show 1<1*3 by decide),hR.cell h.box (g:=g) (cap:=1) rfl 2 (show 2<1*3 by decide)⟩
theorem BagAt.frz (h:BagAt B w f g b n sets sv svs) (hR:Rows B w f) (k:Nat):w.frozen? ⟨g,k,none⟩=false:=hR.frozen h.box (g:=g) (cap:=1) rfl k
theorem BagAt.low (h:BagAt B w f g b n sets sv svs) (hR:Rows B w f):B≤g∧g<w.heap.size:=hR.lt h.box g rfl
theorem BagAt.outer (h:BagAt B w f g b n sets sv svs) (hR:Rows B w f):ValsAt w sv svs:=(hR.ownV h.out).at
theorem BagAt.set (h:BagAt B w f g b n sets sv svs) (hR:Rows B w f) {i:Nat} (hi:i<sets.length):ValsAt w (svs.getD i .nilIface) (wordsV (wordsB (sets.getD i []))):=(hR.ownV (h.each i hi)).at
theorem BagAt.below {w':World} (h:BagAt B w f g b n sets sv svs) (hb:Below w.heap.size w w'):BagAt B w' f g b n sets sv svs :=
 ⟨h.box,h.out,h.len,h.each,h.all,h.map.below hb,h.blk⟩
theorem BagAt.congr {f':Names} (h:BagAt B w f g b n sets sv svs) (e:∀ i,(i.1=20∨i.1=21∨i.1=22)→f' i=f i):BagAt B w f' g b n sets sv svs :=
 ⟨(e _ (.inl rfl)).trans h.box,(e _ (.inr (.inl rfl))).trans h.out,h.len,fun i hi=>(e _ (.inr (.inr rfl))).trans (h.each i hi),h.all,h.map,h.blk⟩
end
def sOverlap:ByteArray:=⟨#[111,118,101,114,108,97,112]⟩
def smallP (k R:Int) (T:List Int):PErr :=
 match checkP k R T with
 | some t=>some t
 | none=>if 256<T.length then fresh sRule 0 4 else none
theorem smallP_ok {K R:Nat} {T:List Int} (h:RuleOk K R T):smallP K R T=if 256<T.length then fresh sRule 0 4 else none:=by
 unfold smallP; rw [h.check]
theorem smallP_none {k R:Int} {T:List Int} (h:smallP k R T=none):checkP k R T=none∧T.length≤256:=by
 unfold smallP at h
 cases hc:checkP k R T with
 | some t=>rw [hc] at h; cases h
 | none =>
  rw [hc] at h
  refine ⟨rfl,?_⟩
  by_cases hl:256<T.length
  ·rw [if_pos hl] at h; simp [fresh] at h
  ·omega
theorem small_any (r:Nat→Addr) (k R:Int) (va:Option Addr) (vn vc:Nat) (T:List Int) (w:World) (hg:Glob r w) (h:IntsAt w (.slice va vn vc) T) :
 Calls Tryz.prog 13 #[.agg #[.int .i64 k,.int .i64 R,.slice va vn vc]] w (Ret1 (fun x w'=>ErrIs r w' (smallP k R T) x) w):=by
 have b0:=belowAlloc w (.cells #[.int .i64 k,.int .i64 R,.slice va vn vc] 24)
 have q:Box3 (w.alloc (.cells #[.int .i64 k,.int .i64 R,.slice va vn vc] 24)) w.heap.size (.int .i64 k) (.int .i64 R) (.slice va vn vc):=by simp [Box3,go_sem]
 have lT:=h.len
 replace hg:=Hd (hg.below b0)
 replace h:=Hd (h.below b0)
 obtain ⟨e0,hsm,he0⟩:∃ e0,(smallP k R T=match e0 with | some t=>some t | none=>if 256<T.length then fresh sRule 0 4 else none)∧checkP k R T=e0:=⟨_,rfl,rfl⟩
 replace he0:=Hd he0
 go_enter Tryz.func13,Tryz.ntmps13
 go_wp2_with fail
 refine (check_any r k R _ T _ hg.out h.out).mono ?_
 rintro e w1 ⟨x,rfl,b1,he⟩
 rw [he0.out] at he
 cases e0 with
 | some t =>
  simp only [] at hsm
  replace hsm:=Hd hsm
  obtain ⟨T1,a1,rfl⟩:=ErrIs.some_shape he
  replace he:=Hd he
  go_wp2
  go_ret
  exact ⟨_,rfl,Below.step b0 b1,by rw [hsm.out]; exact he.out⟩
 | none =>
  obtain rfl:=he.none_eq
  simp only [] at hsm
  clear he
  obtain ⟨⟨z0,z1,z2⟩,-,-,-⟩:=q.below b1
  by_cases hl:256<T.length
  ·rw [if_pos hl] at hsm
   replace hsm:=Hd hsm
   go_wp2_with fail
   refine (rule_wrong r _ _ _ (hg.out.below b1) (by decide) (by decide)).mono ?_
   rintro e w2 ⟨x,rfl,b2,he⟩
   go_wp2
   go_ret
   exact ⟨_,rfl,Below.step b0 (Below.step b1 b2),by rw [hsm.out]; exact he⟩
  ·rw [if_neg hl] at hsm
   replace hsm:=Hd hsm
   go_wp2
   go_ret
   exact ⟨_,rfl,Below.step b0 b1,by rw [hsm.out]; rfl⟩
theorem over_small (r:Nat→Addr) (k R:Int) (va:Option Addr) (vn vc:Nat) (T:List Int) (w:World) (hg:Glob r w) (h:IntsAt w (.slice va vn vc) T) :
 Calls Tryz.prog 173 #[.agg #[.int .i64 k,.int .i64 R,.slice va vn vc]] w (Ret1 (fun x w'=>ErrIs r w' (under sOverlap 0 (smallP k R T)) x) w):=by
 have b0:=belowAlloc w (.cells #[.int .i64 k,.int .i64 R,.slice va vn vc] 24)
 replace hg:=Hd (hg.below b0)
 replace h:=Hd (h.below b0)
 go_enter Tryz.func173,Tryz.ntmps173
 go_wp2_with fail
 refine (small_any r k R va vn vc T _ hg.out h.out).mono ?_
 rintro e w1 ⟨x,rfl,b1,he⟩
 go_wp2_with fail
 refine (under_any r _ 0 _ x _ he).mono ?_
 rintro e w2 ⟨y,rfl,b2,hy⟩
 go_wp2
 go_ret
 exact ⟨_,rfl,Below.step b0 (Below.step b1 b2),hy⟩
theorem over_nodes (K R:Nat) (va:Option Addr) (vn vc:Nat) (T:List Int) (w:World) (h:IntsAt w (.slice va vn vc) T) (h1:1≤K) (hT:T.length≤16384) :
 Calls Tryz.prog 161 #[.agg #[.int .i64 K,.int .i64 R,.slice va vn vc]] w fun e w'=>e=.returned (.int .i64 ((T.length/K:Nat):Int))∧w'=w.alloc (.cells #[.int .i64 K,.int .i64 R,.slice va vn vc] 24):=by
 have hK0:((K:Int)==0)=false:=by rw [beq_eq_false_iff_ne]; omega
 have hK1:¬ (K:Int)=0:=by omega
 have hK2:(0:Int)<K:=by omega
 have hK3:¬ K=0:=by omega
 have lT:=h.len
 have hq0:0≤(T.length:Int)/(K:Int):=Int.ediv_nonneg (by omega) (by omega)
 have hqc:(T.length:Int)/(K:Int)=((T.length/K:Nat):Int):=by simp
 have hqw:IntKind.i64.wrap ((T.length:Int)/(K:Int))=(T.length:Int)/(K:Int):=by
  have:T.length/K≤16384:=Nat.le_trans (Nat.div_le_self _ _) hT
  exact wrapK (by omega) (by rw [hqc]; omega)
 rw [← hqc]
 replace hqc:=Hd hqc
 go_enter Tryz.func161,Tryz.ntmps161
 go_wp2
 go_ret
 exact ⟨rfl,rfl⟩
set_option maxHeartbeats 8000000
def sBag:ByteArray:=⟨#[98,97,103]⟩
theorem bag_wrong (r:Nat→Addr) (at_ n:Int) (w:World) (hg:Glob r w) (h1:1≤n) (h2:n≤11) :
 Calls Tryz.prog 174 #[.int .i64 at_,.int .i64 n] w (Ret1 (fun v w'=>ErrIs r w' (fresh sBag at_ n) v) w):=by
 go_enter Tryz.func174,Tryz.ntmps174
 go_wp2_with fail
 refine (new_any r _ at_ n w hg h1 h2).mono ?_
 rintro e w' ⟨v,rfl,hb,he⟩
 go_wp2
 go_ret
 exact ⟨_,rfl,hb,he⟩
theorem wordsB_small {y:List Bool} {n:Nat} (hy:y.length=n) (h1:1≤n) (hn:n≤4096):1≤(wordsB y).length∧(wordsB y).length≤64:=by
 rw [wordsB_len]; omega
theorem put_old {B:Nat} {f:Names} {g b n:Nat} {sets:List (List Bool)} {sv:Value} {svs:List Value} {w:World} (hR:Rows B w f) (hb:BagAt B w f g b n sets sv svs) (v:Value) (y:List Bool) (hv:ValsAt w v (wordsV (wordsB y))) (hy:y.length=n) (hm:y∈sets) (h1:1≤n) (hn:n≤4096) :
 Calls Tryz.prog 176 #[.pointer (some ⟨g,0,none⟩),v] w (Ret3 (fun x d e _=>x=.int .i64 (sets.idxOf y:Nat)∧d=.bool false∧e=.nilIface) w):=by
 obtain ⟨z0,z1,z2⟩:=hb.cells hR
 obtain ⟨k1,k2⟩:=wordsB_small hy h1 hn
 have key:=bag_key v (wordsB y) w hv k1 k2 (wordsB_lt y)
 have hgl:=(hb.low hR).2
 have hmap:=hb.map
 replace hb:=Hd hb
 replace hR:=Hd hR
 replace hv:=Hd hv
 go_enter Tryz.func176,Tryz.ntmps176
 go_wp2_with fail
 refine key.mono ?_
 rintro e w1 ⟨_,rfl,b1,rfl⟩
 have y2:w1.cell? ⟨g,2,none⟩=some (.map (some b)):=by rw [b1.cell hgl]; exact z2
 have hit:=(hmap.below b1).hit hm hy hn
 go_wp2
 go_ret3
 exact ⟨_,_,_,rfl,b1,rfl,rfl,rfl⟩
theorem put_big (r:Nat→Addr) {B:Nat} {f:Names} {g b n:Nat} {sets:List (List Bool)} {sv:Value} {svs:List Value} {w:World} (hg:Glob r w) (hR:Rows B w f) (hb:BagAt B w f g b n sets sv svs) (v:Value) (y:List Bool) (hv:ValsAt w v (wordsV (wordsB y))) (hy:y.length=n) (hm:y∉sets) (h1:1≤n) (hn:n≤4096) (h4:sets.length=4096) :
 Calls Tryz.prog 176 #[.pointer (some ⟨g,0,none⟩),v] w (Ret3 (fun x d e w'=>x=.int .i64 0∧d=.bool false∧ErrIs r w' (fresh sBag 0 4) e) w):=by
 obtain ⟨z0,z1,z2⟩:=hb.cells hR
 obtain ⟨k1,k2⟩:=wordsB_small hy h1 hn
 have key:=bag_key v (wordsB y) w hv k1 k2 (wordsB_lt y)
 have hgl:=(hb.low hR).2
 have hmap:=hb.map
 have ho:=hb.outer hR
 have l1:=ho.len oneSets
 have hl4:svs.length=4096:=by rw [hb.len,h4]
 rw [hl4] at l1
 obtain ⟨va,vn,vc,rfl⟩:∃ a n c,sv=.slice a n c:=(by obtain ⟨a,c,e,_⟩:=ho; exact ⟨a,_,c,e⟩)
 replace ho:=Hd ho
 replace hb:=Hd hb
 replace hR:=Hd hR
 replace hv:=Hd hv
 replace hg:=Hd hg
 go_enter Tryz.func176,Tryz.ntmps176
 go_wp2_with fail
 refine key.mono ?_
 rintro e w1 ⟨_,rfl,b1,rfl⟩
 have y1:w1.cell? ⟨g,1,none⟩=some (.slice va vn vc):=by rw [b1.cell hgl]; exact z1
 have y2:w1.cell? ⟨g,2,none⟩=some (.map (some b)):=by rw [b1.cell hgl]; exact z2
 obtain ⟨u,miss⟩:=(hmap.below b1).miss hm hy hn
 have hg1:=Hd (hg.out.below b1)
 go_wp2_with fail
 refine (bag_wrong r 0 4 _ hg1.out (by decide) (by decide)).mono ?_
 rintro e w2 ⟨x,rfl,b2,he⟩
 have b12:=Below.step b1 b2
 obtain ⟨T,a,rfl⟩:=ErrIs.some_shape he
 replace he:=Hd he
 go_wp2
 go_ret3
 exact ⟨_,_,_,rfl,b12,rfl,rfl,he.out⟩
theorem Rows.not_map {B:Nat} {w:World} {f:Names} {i:Nat×Nat} {r:Row} {b:Nat} {es:Array MapEntry} {c:Nat} (h:Rows B w f) (hi:f i=some r) (hb:w.heap[b]?=some (.map es c)):r.v.ownBlock≠some b:=by
 have ho:=h.1 i r hi
 rcases ho.2 with ⟨e,_⟩ | ⟨g,cap,cur,e,_,hh,_⟩
 ·rw [e]; intro q; cases q
 ·rw [e]; intro q
  have:g=b:=by injection q
  subst this; rw [hh] at hb; cases hb
theorem BagAt.more {B:Nat} {w w':World} {f f3:Names} {g b n:Nat} {sets:List (List Bool)} {sv sv' v:Value} {svs:List Value} {y:List Bool} (h:BagAt B w f g b n sets sv svs) (hR:Rows B w' f3) (e20:f3 (20,0)=some (box3 232 g [.int .i64 n,sv',.map (some b)])) (e21:f3 (21,0)=some (rowV 233 sv' (svs++[v])))
 (e22:∀ i,f3 (22,i)=f (22,i)) (e23:f3 (23,0)=some (rowV 272 v (wordsV (wordsB y)))) (hy:y.length=n) (hm:BagMap w' b n (sets++[y])) :
 ∃ f',Rows B w' f'∧BagAt B w' f' g b n (sets++[y]) sv' (svs++[v])∧∀ j:Nat×Nat,j.1≠22→j.1≠23→f' j=f3 j:=by
 have hown:=hR.1 _ _ e23
 have hmv:=hR.move (j:=(22,sets.length)) e23 hown rfl
 have ll:=h.len
 refine ⟨_,hmv,⟨?_,?_,by simp [ll],fun i hi=>?_,fun x hx=>?_,hm,h.blk⟩,fun j h1 h2=>?_⟩
 ·rw [upd_ne _ _ (by intro e; cases e),upd_ne _ _ (by intro e; cases e)]; exact e20
 ·rw [upd_ne _ _ (by intro e; cases e),upd_ne _ _ (by intro e; cases e)]; exact e21
 ·rw [List.length_append,List.length_singleton] at hi
  by_cases c:i=sets.length
  ·subst c
   have a1:(svs++[v]).getD sets.length .nilIface=v:=by rw [← ll]; simp [List.getD]
   have a2:(sets++[y]).getD sets.length []=y:=by simp [List.getD]
   rw [upd_same,a1,a2]
  ·have hi2:i<sets.length:=by omega
   have a1:(svs++[v]).getD i .nilIface=svs.getD i .nilIface:=by simp [List.getD,List.getElem?_append_left (show i<svs.length by omega)]
   have a2:(sets++[y]).getD i []=sets.getD i []:=by simp [List.getD,List.getElem?_append_left hi2]
   rw [upd_ne _ _ (by intro e; injection e with _ e; exact c e),upd_ne _ _ (by intro e; cases e),a1,a2,e22]
   exact h.each i hi2
 ·rcases List.mem_append.1 hx with hx | hx
  ·exact h.all x hx
  ·rw [List.mem_singleton] at hx; rw [hx]; exact hy
 ·rw [upd_ne _ _ (by intro e; exact h1 (by rw [e])),upd_ne _ _ (by intro e; exact h2 (by rw [e]))]
def PutPost (B:Nat) (f:Names) (g b n:Nat) (sets:List (List Bool)) (svs:List Value) (v:Value) (y:List Bool) (m:Nat) (w:World) (e:Ending) (w':World):Prop :=
 e=.returned (.tuple #[.int .i64 (m:Nat),.bool true,.nilIface])∧Below B w w'∧∃ f' sv',Rows B w' f'∧BagAt B w' f' g b n (sets++[y]) sv' (svs++[v])∧∀ j:Nat×Nat,j.1≠20→j.1≠21→j.1≠22→j.1≠23→f' j=f j
theorem put_new {B:Nat} {f:Names} {g b n:Nat} {sets:List (List Bool)} {sv:Value} {svs:List Value} {w:World} (hR:Rows B w f) (hb:BagAt B w f g b n sets sv svs) (v:Value) (y:List Bool) (hi:f (23,0)=some (rowV 272 v (wordsV (wordsB y)))) (hy:y.length=n) (hm:y∉sets) (h1:1≤n) (hn:n≤4096) (h4:sets.length<4096) :
 Calls Tryz.prog 176 #[.pointer (some ⟨g,0,none⟩),v] w (PutPost B f g b n sets svs v y sets.length w):=by
 obtain ⟨z0,z1,z2⟩:=hb.cells hR
 obtain ⟨k1,k2⟩:=wordsB_small hy h1 hn
 have hv:=(hR.ownV hi).at
 obtain ⟨ua,un,uc,rfl⟩:=(hR.ownV hi).shape
 have key:=bag_key _ (wordsB y) w hv k1 k2 (wordsB_lt y)
 obtain ⟨hgB,hgl⟩:=hb.low hR
 have hmap:=hb.map
 have ho:=hb.outer hR
 have hlen:=hb.len
 have l1:=ho.len oneSets
 obtain ⟨va,vn,vc,rfl⟩:=(hR.ownV hb.out).shape
 replace ho:=Hd ho
 replace hb:=Hd hb
 replace hR:=Hd hR
 replace hv:=Hd hv
 obtain ⟨m,hm0⟩:∃ m,sets.length=m:=⟨_,rfl⟩
 rw [hm0] at hlen h4 ⊢
 rw [hlen] at l1
 have d4:decide ((m:Int)=4096)=false:=decide_eq_false (by omega)
 go_enter Tryz.func176,Tryz.ntmps176
 go_wp2_with fail
 refine key.mono ?_
 rintro e w1 ⟨_,rfl,b1,rfl⟩
 have y1:w1.cell? ⟨g,1,none⟩=some (.slice va vn vc):=by rw [b1.cell hgl]; exact z1
 have y2:w1.cell? ⟨g,2,none⟩=some (.map (some b)):=by rw [b1.cell hgl]; exact z2
 have hmap1:=hmap.below b1
 obtain ⟨u,miss⟩:=hmap1.miss hm hy hn
 have hR1:=hR.out.below b1
 obtain ⟨w2,hst,hmap2,g2⟩:=hmap1.store hm hy hn hb.out.all (by omega)
 rw [hm0] at hst
 obtain ⟨es,cl,hblk⟩:=hmap1.blk
 have hR2:=hR1.mapB hblk g2
 have B2:Below B w1 w2:=(Below.refl _ _).grown g2 (Nat.le_trans (Nat.le_of_lt (Nat.lt_of_le_of_lt hgB hgl)) b1.size) (by intro k hk; injection hk with hk; subst hk; exact hb.out.blk)
 have x0:w2.cell? ⟨g,0,none⟩=some (.int .i64 n):=hR2.cell hb.out.box (g:=g) (cap:=1) rfl 0 (show 0<1*3 by decide)
 have x1:w2.cell? ⟨g,1,none⟩=some (.slice va vn vc):=hR2.cell hb.out.box (g:=g) (cap:=1) rfl 1 (show 1<1*3 by decide)
 have x2:w2.cell? ⟨g,2,none⟩=some (.map (some b)):=hR2.cell hb.out.box (g:=g) (cap:=1) rfl 2 (show 2<1*3 by decide)
 have hB2s:B≤w2.heap.size:=Nat.le_trans (Nat.le_of_lt (Nat.lt_of_le_of_lt hgB hgl)) (Nat.le_trans b1.size B2.size)
 obtain ⟨es2,cl2,hblk2⟩:=hmap2.blk
 have hsl:svs.length<4398046511104:=by omega
 have b12:Below B w w2:=(b1.mono (Nat.le_of_lt (Nat.lt_of_le_of_lt hgB hgl))).trans B2
 replace hmap2:=Hd hmap2
 replace hblk2:=Hd hblk2
 replace hblk:=Hd hblk
 replace b12:=Hd b12
 replace hi:=Hd hi
 clear hmap hmap1 hR1 B2 key
 go_wp2_with (at_builtin; go_loud (refine wpl_appR oneSets rfl _ _ rfl hR2 (21,0) (.slice va vn vc) svs hb.out.out (.slice ua un uc) rfl rfl rfl hsl hB2s ?_))
 intro v' w3 f3 hR3 i3 o3 B3 hgr
 obtain ⟨row,g3,hrow⟩:=hgr
 obtain ⟨xa,xn,xc,rfl⟩:=(hR3.ownV i3).shape
 have hmap3:=hmap2.out.kept g3 (fun e=>hR2.not_map hb.out.out hblk2.out (hrow b e.symm))
 have e20:f3 (20,0)=some (box3 232 g [.int .i64 n,.slice va vn vc,.map (some b)]):=(o3 _ (by intro e; cases e)).trans hb.out.box
 have t1:w3.cell? ⟨g,1,none⟩=some (.slice va vn vc):=hR3.cell e20 (g:=g) (cap:=1) rfl 1 (show 1<1*3 by decide)
 have t2:=hR3.frozen e20 (g:=g) (cap:=1) rfl 1
 obtain ⟨es3,cl3,hblk3⟩:=hmap3.blk
 have hR4:=hR3.set e20 (g:=g) (cap:=1) rfl 1 (.slice xa xn xc)
 have g4:w3.grownBy (w3.setCell ⟨g,1,none⟩ (.slice xa xn xc)) (some g):=(World.ownsRow.stored (hR3.1 _ _ e20) 1 (.slice xa xn xc)).2
 have hmap4:=hmap3.kept g4 (fun e=>hR3.not_map e20 hblk3 (by injection e with e; rw [e]; rfl))
 have hfin:=hb.out.more hR4 (sv':=.slice xa xn xc) (v:=.slice ua un uc) (y:=y) (by rw [upd_same]; rfl) (by rw [upd_ne _ _ (by intro e; cases e)]; exact i3) (fun i=>by rw [upd_ne _ _ (by intro e; cases e)]; exact o3 _ (by intro e; cases e)) (by rw [upd_ne _ _ (by intro e; cases e),o3 _ (by intro e; cases e)]; exact hi.out) hy hmap4
 have bfin:=b12.out.trans (B3.setCell (show B≤(⟨g,1,none⟩:Addr).block from hgB) (.slice xa xn xc))
 obtain ⟨f5,hR5,hb5,o5⟩:=hfin
 have o6:∀ j:Nat×Nat,j.1≠20→j.1≠21→j.1≠22→j.1≠23→f5 j=f j:=fun j h20 h21 h22 h23=>by
  rw [o5 j h22 h23,upd_ne _ _ (by intro e; exact h20 (by rw [e])),o3 j (by intro e; exact h21 (by rw [e]))]
 replace hb5:=Hd hb5
 replace hR5:=Hd hR5
 replace bfin:=Hd bfin
 clear hR4 hmap3 hmap4 hblk3 hR3 hR2 B3 g3 g4 i3 o3
 go_wp2
 go_ret3
 exact ⟨rfl,bfin.out,f5,_,hR5.out,hb5.out,o6⟩
theorem bag_Put_old {B:Nat} {f:Names} {g b n:Nat} {sets:List (List Bool)} {sv:Value} {svs:List Value} {w:World} (hR:Rows B w f) (hb:BagAt B w f g b n sets sv svs) (v:Value) (xs:List Nat) (h:IntsAt w v (natI xs)) (hx:∀ x∈xs,x<n) (hxl:xs.length≤100000) (hm:setOf n xs∈sets) (h1:1≤n) (hn:n≤4096) :
 Calls Tryz.prog 104 #[.pointer (some ⟨g,0,none⟩),v] w (Ret3 (fun x d e _=>x=.int .i64 (sets.idxOf (setOf n xs):Nat)∧d=.bool false∧e=.nilIface) w):=by
 obtain ⟨z0,z1,z2⟩:=hb.cells hR
 have hbits:=bag_bits n g v xs w z0 h hx hxl h1 hn
 obtain ⟨va,vn,vc,rfl⟩:=h.shape
 replace hb:=Hd hb
 replace hR:=Hd hR
 replace h:=Hd h
 go_enter Tryz.func104,Tryz.ntmps104
 go_wp2_with fail
 refine hbits.mono ?_
 rintro e w1 ⟨x,_,rfl,b1,rfl,ho⟩
 have hput:=put_old (hR.out.below b1) (hb.out.below b1) x (setOf n xs) ho.at (setOf_len _ _) hm h1 hn
 obtain ⟨xa,xn,xc,rfl⟩:=ho.shape
 replace ho:=Hd ho
 go_wp2_with fail
 refine hput.mono ?_
 rintro e w2 ⟨_,_,_,rfl,b2,rfl,rfl,rfl⟩
 have b12:=Below.step b1 b2
 go_wp2
 go_ret3
 exact ⟨_,_,_,rfl,b12,rfl,rfl,rfl⟩
theorem bag_Put_big (r:Nat→Addr) {B:Nat} {f:Names} {g b n:Nat} {sets:List (List Bool)} {sv:Value} {svs:List Value} {w:World} (hg:Glob r w) (hR:Rows B w f) (hb:BagAt B w f g b n sets sv svs) (v:Value) (xs:List Nat) (h:IntsAt w v (natI xs)) (hx:∀ x∈xs,x<n) (hxl:xs.length≤100000) (hm:setOf n xs∉sets) (h1:1≤n) (hn:n≤4096) (h4:sets.length=4096) :
 Calls Tryz.prog 104 #[.pointer (some ⟨g,0,none⟩),v] w (Ret3 (fun x d e w'=>x=.int .i64 0∧d=.bool false∧ErrIs r w' (fresh sBag 0 4) e) w):=by
 obtain ⟨z0,z1,z2⟩:=hb.cells hR
 have hbits:=bag_bits n g v xs w z0 h hx hxl h1 hn
 obtain ⟨va,vn,vc,rfl⟩:=h.shape
 replace hb:=Hd hb
 replace hR:=Hd hR
 replace h:=Hd h
 replace hg:=Hd hg
 go_enter Tryz.func104,Tryz.ntmps104
 go_wp2_with fail
 refine hbits.mono ?_
 rintro e w1 ⟨x,_,rfl,b1,rfl,ho⟩
 have hput:=put_big r (hg.out.below b1) (hR.out.below b1) (hb.out.below b1) x (setOf n xs) ho.at (setOf_len _ _) hm h1 hn h4
 obtain ⟨xa,xn,xc,rfl⟩:=ho.shape
 replace ho:=Hd ho
 go_wp2_with fail
 refine hput.mono ?_
 rintro e w2 ⟨_,_,_,rfl,b2,rfl,rfl,he⟩
 have b12:=Below.step b1 b2
 obtain ⟨T,a,rfl⟩:=ErrIs.some_shape he
 replace he:=Hd he
 go_wp2
 go_ret3
 exact ⟨_,_,_,rfl,b12,rfl,rfl,he.out⟩
theorem bag_Put_new {B:Nat} {f:Names} {g b n:Nat} {sets:List (List Bool)} {sv:Value} {svs:List Value} {w:World} (hR:Rows B w f) (hb:BagAt B w f g b n sets sv svs) (v:Value) (xs:List Nat) (h:IntsAt w v (natI xs)) (hx:∀ x∈xs,x<n) (hxl:xs.length≤100000) (hm:setOf n xs∉sets) (h1:1≤n) (hn:n≤4096) (h4:sets.length<4096) :
 Calls Tryz.prog 104 #[.pointer (some ⟨g,0,none⟩),v] w (fun e w'=>∃ u,PutPost B f g b n sets svs u (setOf n xs) sets.length w e w'):=by
 obtain ⟨z0,z1,z2⟩:=hb.cells hR
 have hgB:=(hb.low hR)
 have hbits:=bag_bits n g v xs w z0 h hx hxl h1 hn
 obtain ⟨va,vn,vc,rfl⟩:=h.shape
 replace hb:=Hd hb
 replace hR:=Hd hR
 replace h:=Hd h
 go_enter Tryz.func104,Tryz.ntmps104
 go_wp2_with fail
 refine hbits.mono ?_
 rintro e w1 ⟨x,_,rfl,b1,rfl,ho⟩
 have hBw:B≤w.heap.size:=by omega
 have hR1:=hR.out.add (i:=(23,0)) (r':=rowV 272 x (wordsV (wordsB (setOf n xs)))) b1 (ho.mono hBw) (fun k hk=>(ho.lt k hk).1)
 have hb1:=(hb.out.below b1).congr (f':=upd f (23,0) (some (rowV 272 x (wordsV (wordsB (setOf n xs)))))) (fun i hi=>upd_ne _ _ (by intro e; subst e; rcases hi with q | q | q<;>cases q))
 have hput:=put_new hR1 hb1 x (setOf n xs) (upd_same _ _ _) (setOf_len _ _) hm h1 hn h4
 obtain ⟨xa,xn,xc,rfl⟩:=ho.shape
 replace ho:=Hd ho
 replace hR1:=Hd hR1
 replace hb1:=Hd hb1
 go_wp2_with fail
 refine hput.mono ?_
 rintro e w2 ⟨rfl,b2,f2,sv2,hR2,hb2,o2⟩
 have hfin:PutPost B f g b n sets svs (.slice xa xn xc) (setOf n xs) sets.length w (.returned (.tuple #[.int .i64 (sets.length:Nat),.bool true,.nilIface])) w2 :=
  ⟨rfl,(b1.mono hBw).trans b2,f2,sv2,hR2,hb2,fun j a1 a2 a3 a4=>by rw [o2 j a1 a2 a3 a4,upd_ne _ _ (by intro e; exact a4 (by rw [e]))]⟩
 replace hfin:=Hd hfin
 clear hR2 hb2 o2
 go_wp2
 go_ret3
 exact ⟨_,hfin.out⟩
end Go.Proofs.YtncpnaoabkjegaaGreatDoor
namespace Go.Proofs.YtncpnaoabkjegaaGreatDoor
open Go.RowKit
set_option maxRecDepth 100000
theorem bag_Len (g:Nat) (sv:Value) (svs:List Value) (w:World) (c1:w.cell? ⟨g,1,none⟩=some sv) (h:ValsAt w sv svs) :
 Calls Tryz.prog 105 #[.pointer (some ⟨g,0,none⟩)] w fun e w'=>e=.returned (.int .i64 (svs.length:Nat))∧w=w':=by
 have l1:=h.len oneSets
 obtain ⟨va,vn,vc,rfl⟩:∃ a n c,sv=.slice a n c:=(by obtain ⟨a,c,e,_⟩:=h; exact ⟨a,_,c,e⟩)
 replace h:=Hd h
 go_enter Tryz.func105,Tryz.ntmps105
 go_wp2
 go_ret
 exact ⟨rfl,rfl⟩
def NewPost (B:Nat) (f:Names) (n:Nat) (w:World) (e:Ending) (w':World):Prop :=
 ∃ g,e=.returned (.tuple #[.pointer (some ⟨g,0,none⟩),.nilIface])∧Below w.heap.size w w'∧w.heap.size≤g∧∃ b f',Rows B w' f'∧BagAt B w' f' g b n [] (.slice none 0 0) []∧∀ j:Nat×Nat,j.1≠20→j.1≠21→f' j=f j
theorem bag_New (B:Nat) (f:Names) (n:Nat) (w:World) (hR:Rows B w f) (hB:B≤w.heap.size) (hn:n≤8192) :
 Calls Tryz.prog 103 #[.int .i64 n] w (NewPost B f n w):=by
 have d1:decide ((n:Int)<0)=false:=decide_eq_false (by omega)
 have d2:decide ((n:Int)>8192)=false:=decide_eq_false (by omega)
 have hR1:=hR.below (belowAlloc w (.map #[] 0))
 have hR2:=hR1.add (i:=(20,0)) (r':=box3 232 (w.heap.size+1) [.int .i64 n,.slice none 0 0,.map (some w.heap.size)]) (belowAlloc _ (.cells #[.int .i64 n,.slice none 0 0,.map (some w.heap.size)] 232))
  (by
    have:=World.ownsRow_lit (base:=B) (e:=232) (size:=3) (w.alloc (.map #[] 0)) #[.int .i64 n,.slice none 0 0,.map (some w.heap.size)] 1 (by simp; omega) (by decide) rfl
    unfold Row.own
    simpa using this) (fun k hk=>by cases hk; simp)
 have hR3:=hR2.add (i:=(21,0)) (r':=rowV 233 (.slice none 0 0) []) (Below.refl _ _) (OwnV.nil _ _ _) (fun k hk=>by cases hk)
 have hm:=(BagMap.made w n).below (belowAlloc _ (.cells #[.int .i64 n,.slice none 0 0,.map (some w.heap.size)] 232))
 have hfin:NewPost B f n w (.returned (.tuple #[.pointer (some ⟨w.heap.size+1,0,none⟩),.nilIface])) ((w.alloc (.map #[] 0)).alloc (.cells #[.int .i64 n,.slice none 0 0,.map (some w.heap.size)] 232)):=by
  refine ⟨_,rfl,Below.step (belowAlloc w _) (belowAlloc _ _),Nat.le_succ _,w.heap.size,_,hR3,⟨?_,upd_same _ _ _,rfl,fun i hi=>absurd hi (Nat.not_lt_zero _),fun x hx=>(by cases hx),hm,hB⟩,fun j h1 h2=>?_⟩
  ·rw [upd_ne _ _ (by intro e; cases e),upd_same]
  ·rw [upd_ne _ _ (by intro e; exact h2 (by rw [e])),upd_ne _ _ (by intro e; exact h1 (by rw [e]))]
 have mkm:(Instr.makeMap 229 none).run Tryz.prog w=.ok (.map (some w.heap.size)) (w.alloc (.map #[] 0)):=rfl
 replace hfin:=Hd hfin
 clear hR1 hR2 hR3 hm
 go_enter Tryz.func103,Tryz.ntmps103
 go_wp2
 go_ret2
 exact hfin.out
end Go.Proofs.YtncpnaoabkjegaaGreatDoor
namespace Go.Proofs.YtncpnaoabkjegaaGreatDoor
def behU (K N:Nat) (T:List Int) (u:Nat) (s:Int) (t:Nat):List Nat:=((List.range t).filter fun c=>decide (T.getD (u*K+c) 0=s)).map fun c=>(u*K+c)%N
theorem behU_zero (K N:Nat) (T:List Int) (u:Nat) (s:Int):behU K N T u s 0=[]:=rfl
theorem behU_succ (K N:Nat) (T:List Int) (u:Nat) (s:Int) (t:Nat):behU K N T u s (t+1)=behU K N T u s t++if T.getD (u*K+t) 0=s then [(u*K+t)%N] else []:=by
 unfold behU
 rw [List.range_succ,List.filter_append,List.map_append]
 congr 1
 by_cases h:T.getD (u*K+t) 0=s
 ·rw [if_pos h,List.filter_cons,if_pos (decide_eq_true h)]; rfl
 ·rw [if_neg h,List.filter_cons,if_neg (by rw [decide_eq_false h]; decide)]; rfl
def behM (K N:Nat) (T:List Int) (us:List Nat) (s:Int):List Nat:=us.flatMap fun u=>behU K N T u s K
theorem behM_snoc (K N:Nat) (T:List Int) (us:List Nat) (u:Nat) (s:Int):behM K N T (us++[u]) s=behM K N T us s++behU K N T u s K:=by simp [behM]
theorem mem_behM {K N:Nat} {T:List Int} {us:List Nat} {s:Int} {v:Nat}:v∈behM K N T us s↔∃ u∈us,∃ c,c<K∧(u*K+c)%N=v∧T.getD (u*K+c) 0=s:=by
 unfold behM behU
 simp only [List.mem_flatMap,List.mem_map,List.mem_filter,List.mem_range,decide_eq_true_eq]
 constructor
 ·rintro ⟨u,hu,c,⟨hc,h2⟩,h3⟩; exact ⟨u,hu,c,hc,h3,h2⟩
 ·rintro ⟨u,hu,c,hc,h3,h2⟩; exact ⟨u,hu,c,⟨hc,h2⟩,h3⟩
theorem mem_memB {l:List Bool} {n u:Nat}:u∈memB l n↔u<n∧l.getD u false=true:=by
 unfold memB
 rw [List.mem_filter,List.mem_range]
theorem behM_lt {K N:Nat} {T:List Int} {us:List Nat} {s:Int} (hN:0<N):∀ v∈behM K N T us s,v<N:=fun v hv=>by
 obtain ⟨u,_,c,_,e,_⟩:=mem_behM.1 hv
 rw [← e]; exact Nat.mod_lt _ hN
theorem setOf_beh {K N:Nat} {T:List Int} {l:List Bool} {s:Int}:setOf N (behM K N T (memB l N) s)=behB K N T l s:=by
 refine List.ext_getElem (by rw [setOf_len,behB_len]) fun v h1 h2=>?_
 have h3:v<N:=by rw [setOf_len] at h1; exact h1
 have e1:=setOf_get (n:=N) (xs:=behM K N T (memB l N) s) h3
 rw [List.getD_eq_getElem?_getD,List.getElem?_eq_getElem h1,Option.getD_some] at e1
 rw [e1]
 have hi:=behB_iff (K:=K) (T:=T) (l:=l) (s:=s) h3
 rw [List.getD_eq_getElem?_getD,List.getElem?_eq_getElem h2,Option.getD_some] at hi
 have hm:v∈behM K N T (memB l N) s↔(behB K N T l s)[v]=true:=by
  rw [hi,mem_behM]
  constructor
  ·rintro ⟨u,hu,c,hc,a,b⟩
   obtain ⟨p,q⟩:=mem_memB.1 hu
   exact ⟨u,p,q,c,hc,a,b⟩
  ·rintro ⟨u,p,q,c,hc,a,b⟩
   exact ⟨u,mem_memB.2 ⟨p,q⟩,c,hc,a,b⟩
 by_cases hv:v∈behM K N T (memB l N) s
 ·rw [decide_eq_true hv]; exact (hm.1 hv).symm
 ·rw [decide_eq_false hv]
  cases hb:(behB K N T l s)[v] with
  | false=>rfl
  | true=>exact absurd (hm.2 hb) hv
theorem beh_nil {K N:Nat} {T:List Int} {l:List Bool} {s:Int} (hN:0<N):behM K N T (memB l N) s=[]↔(behB K N T l s).any id=false:=by
 constructor
 ·intro h
  have e:=setOf_beh (K:=K) (N:=N) (T:=T) (l:=l) (s:=s)
  rw [h] at e
  rw [← e]
  show (List.replicate N false).any id=false
  rw [List.any_eq_false]
  intro x hx
  rw [List.eq_of_mem_replicate hx]; decide
 ·intro h
  apply List.eq_nil_iff_forall_not_mem.2
  intro v hv
  have hlt:=behM_lt hN v hv
  have e1:=setOf_get (n:=N) (xs:=behM K N T (memB l N) s) hlt
  rw [setOf_beh,decide_eq_true hv] at e1
  have:=(any_iff (behB_len K N T l s)).2 ⟨v,hlt,e1⟩
  rw [h] at this; cases this
open Go.RowKit
set_option maxRecDepth 100000
abbrev box7 (T:TypeId) (g:Nat) (cs:List Value):Row:=⟨T,7,.slice (some ⟨g,0,none⟩) 1 1,1,cs⟩
structure ListsIn (f:Names) (p:Nat) (v:Value) (vs:List Value) (xs:List (List Int)):Prop where
 out:f (p,0)=some (rowV 22 v vs)
 len:vs.length=xs.length
 each:∀ i,i<xs.length→f (p+1,i)=some (rowI (vs.getD i .nilIface) (xs.getD i []))
theorem ListsIn.congr {f f':Names} {p:Nat} {v:Value} {vs:List Value} {xs:List (List Int)} (h:ListsIn f p v vs xs) (e:∀ i:Nat×Nat,(i.1=p∨i.1=p+1)→f' i=f i):ListsIn f' p v vs xs :=
 ⟨(e _ (.inl rfl)).trans h.out,h.len,fun i hi=>(e _ (.inr rfl)).trans (h.each i hi)⟩
structure WalkAt (B:Nat) (w:World) (f:Names) (g gb b K R n:Nat) (tv:Value) (stop:Bool) (sets:List (List Bool)) (words next:List (List Int)) (sv:Value) (svs:List Value) (wv:Value) (wvs:List Value) (nv:Value) (nvs:List Value):Prop where
 box:f (30,0)=some (box7 78 g [.int .i64 K,.int .i64 R,tv,.pointer (some ⟨gb,0,none⟩),nv,wv,.bool stop])
 bag:BagAt B w f gb b n sets sv svs
 words:ListsIn f 31 wv wvs words
 next:ListsIn f 33 nv nvs next
section
variable {B:Nat} {w:World} {f:Names} {g gb b K R n:Nat} {tv:Value} {stop:Bool} {sets:List (List Bool)} {words next:List (List Int)} {sv:Value} {svs:List Value} {wv:Value} {wvs:List Value} {nv:Value} {nvs:List Value}
theorem WalkAt.cell (h:WalkAt B w f g gb b K R n tv stop sets words next sv svs wv wvs nv nvs) (hR:Rows B w f) (k:Nat) (hk:k<7):w.cell? ⟨g,k,none⟩=[Value.int .i64 K,.int .i64 R,tv,.pointer (some ⟨gb,0,none⟩),nv,wv,.bool stop][k]? :=
 hR.cell h.box (g:=g) (cap:=1) rfl k (show k<1*7 by omega)
theorem WalkAt.frz (h:WalkAt B w f g gb b K R n tv stop sets words next sv svs wv wvs nv nvs) (hR:Rows B w f) (k:Nat):w.frozen? ⟨g,k,none⟩=false:=hR.frozen h.box (g:=g) (cap:=1) rfl k
theorem WalkAt.low (h:WalkAt B w f g gb b K R n tv stop sets words next sv svs wv wvs nv nvs) (hR:Rows B w f):B≤g∧g<w.heap.size:=hR.lt h.box g rfl
theorem WalkAt.below {w':World} (h:WalkAt B w f g gb b K R n tv stop sets words next sv svs wv wvs nv nvs) (hb:Below w.heap.size w w'):WalkAt B w' f g gb b K R n tv stop sets words next sv svs wv wvs nv nvs :=
 ⟨h.box,h.bag.below hb,h.words,h.next⟩
end
end Go.Proofs.YtncpnaoabkjegaaGreatDoor
namespace Go.Proofs.YtncpnaoabkjegaaGreatDoor
section
variable {P:Program} {ops:Array Oper} {Q:Exit→Act→World→Prop} {md:Region.Mode} {S:World→Prop}
def wpAnyT (P:Program) (md:Region.Mode) (ops:Array Oper) (Q:Exit→Act→World→Prop) (S:World→Prop) (n:Nat):Nat→Array Bool→Act→World→Prop
 | 0,listed,a,w=>Region.ready md ops listed=[]∧Q .normal a w
 | fuel+1,listed,a,w =>
  (Region.ready md ops listed=[]→Q .normal a w) ∧
  ∀ i∈Region.ready md ops listed,wpOp P ops Q i (fun a' w'=>(i<n→S w')∧wpAnyT P md ops Q S n fuel (listed.setIfInBounds i true) a' w') a w
theorem wpAny_of_T {n:Nat}:∀ (fuel:Nat) (listed:Array Bool) (a:Act) (w:World),wpAnyT P md ops Q S n fuel listed a w→wpAny P md ops Q fuel listed a w
 | 0,_,_,_,h=>h
 | fuel+1,_,_,_,h=>⟨h.1,fun i hi=>wpOp_mono (fun a' w' h'=>wpAny_of_T fuel _ a' w' h'.2) (h.2 i hi)⟩
theorem wpAnyT_of {n:Nat}:∀ (fuel:Nat) (listed:Array Bool) (a:Act) (w:World),(∀ j,j<n→listed.getD j true=true)→wpAny P md ops Q fuel listed a w→wpAnyT P md ops Q S n fuel listed a w
 | 0,_,_,_,_,h=>h
 | fuel+1,listed,a,w,hl,h=>⟨h.1,fun i hi=>wpOp_mono (fun a' w' h'=>⟨fun hin=>Bool.noConfusion ((hl i hin).symm.trans (mem_ready.1 hi).1),wpAnyT_of fuel _ a' w' (fun j hj=>by
  by_cases hij:i=j
  ·subst hij
   rcases Nat.lt_or_ge i listed.size with h2 | h2
   ·simp [h2]
   ·rw [Array.getD_eq_getD_getElem?,Array.getElem?_eq_none (by simpa using h2)]; rfl
  ·rw [getD_set_ne true hij]; exact hl j hj) h'⟩) (h.2 i hi)⟩
theorem wpAnyT_first {n i:Nat} {oi:Oper} {v:Value} (hi:ops[i]?=some oi) (hsel:∀ (j:Nat) (o:Oper) cs b,ops[j]?=some o→o.op≠.select cs b)
 (hs:Region.sinkB md ops n=true) (hc:Region.chainB md ops n=true) (hn:n<ops.size) (hin:i<n)
 (hQ:∀ c a w,Q (.panic c) (a.put oi.dst v) w→Q (.panic c) a w) :
 ∀ (fuel:Nat) (listed:Array Bool) (a:Act) (w:World),HeadInv md ops n listed →
  (∀ j oj,ops[j]?=some oj→j≠i→listed.getD j true=false→(∀ e∈oj.after,Region.binds md e=true→e.on≠i)→oi.apart ops oj=true) →
  i∈Region.ready md ops listed→YieldsIf P ops S oi v a→S w →
  wpAnyT P md ops Q S n fuel (listed.setIfInBounds i true) (a.put oi.dst v) w→wpAnyT P md ops Q S n (fuel+1) listed a w:=by
 intro fuel
 induction fuel with
 | zero =>
  intro listed a w inv _ hr hy hS H
  refine ⟨fun h=>(by rw [h] at hr; cases hr),fun j hj=>?_⟩
  by_cases hji:j=i
  ·subst hji; exact hy.wpOp hi hS ⟨fun _=>hS,H⟩
  ·have:=ready_mono hj hji
   rw [H.1] at this
   cases this
 | succ fuel ih =>
  intro listed a w inv hfree hr hy hS H
  have hun:=(mem_ready.1 hr).1
  refine ⟨fun h=>(by rw [h] at hr; cases hr),fun j hj=>?_⟩
  have hjn:j<n:=by
   rcases Nat.lt_or_ge j n with h | h
   ·exact h
   ·exact absurd hj (tail_waits hs hc hn inv _ i rfl hin hun j h)
  by_cases hji:j=i
  ·subst hji; exact hy.wpOp hi hS ⟨fun _=>hS,H⟩
  ·have h1:=H.2 j (ready_mono hj hji)
   obtain ⟨hjun,oj,hoj,hall⟩:=mem_ready.1 hj
   have hnot:∀ e∈oj.after,Region.binds md e=true→e.on≠i:=fun e he hb heq=>by
    have h1:=hall e he hb
    rw [heq,getD_both hun] at h1
    cases h1
   have h2:=wpOp_putIf hoj (hfree j oj hoj hji hjun hnot) (fun cs b=>hsel i oi cs b hi) (fun cs b=>hsel j oj cs b hoj) hQ hy h1
   have hfree':∀ k ok,ops[k]?=some ok→k≠i→(listed.setIfInBounds j true).getD k true=false →
    (∀ e∈ok.after,Region.binds md e=true→e.on≠i)→oi.apart ops ok=true:=fun k ok hk hki hun hno=>by
    refine hfree k ok hk hki ?_ hno
    by_cases hjk:j=k
    ·subst hjk; exact hjun
    ·rw [getD_set_ne true hjk] at hun; exact hun
   refine wpOp_mono (fun a' w' h3=>⟨fun _=>h3.2.1 hjn,ih (listed.setIfInBounds j true) a' w' (inv.set hj hjn) hfree' (ready_mono hr (Ne.symm hji)) h3.1 (h3.2.1 hjn) ?_⟩) h2
   rw [Array.setIfInBounds_comm _ _ hji]
   exact h3.2.2
def wpHead (P:Program) (ops:Array Oper) (Q:Exit→Act→World→Prop) (S:World→Prop) (K:Act→World→Prop):List (Nat×Bool)→Act→World→Prop
 | [],a,w=>K a w
 | (k,true)::l,a,w=>∃ o v,ops[k]?=some o∧YieldsIf P ops S o v a∧S w∧wpHead P ops Q S K l (a.put o.dst v) w
 | (k,false)::l,a,w=>wpOp P ops Q k (fun a' w'=>S w'∧wpHead P ops Q S K l a' w') a w
def planB (md:Region.Mode) (ops:Array Oper) (n:Nat):List (Nat×Bool)→Array Bool→Bool
 | [],listed=>(List.range n).all (fun j=>listed.getD j true)&&Region.seqB md ops (ops.size-n) n listed
 | (k,true)::l,listed=>decide (k<n)&&(Region.ready md ops listed).contains k&&Region.free md ops listed k&&planB md ops n l (listed.setIfInBounds k true)
 | (k,false)::l,listed=>decide (k<n)&&decide (Region.ready md ops listed=[k])&&planB md ops n l (listed.setIfInBounds k true)
theorem wpAnyT_plan {n:Nat} {ol:List Oper} (hol:ops=ol.toArray) (hsel:Region.noSelect ops=true) (hs:Region.sinkB md ops n=true) (hc:Region.chainB md ops n=true) (hn:n<ops.size)
 (hQ:∀ c a w,Q (.panic c) a w→False) :
 ∀ (l:List (Nat×Bool)) (listed:Array Bool) (a:Act) (w:World),HeadInv md ops n listed→planB md ops n l listed=true →
  wpHead P ops Q S (fun a' w'=>wpList P ops Q (ol.drop n) a' w') l a w→wpAnyT P md ops Q S n (l.length+(ops.size-n)) listed a w
 | [],listed,a,w,inv,hB,h=>by
  simp only [planB,Bool.and_eq_true] at hB
  have hl:∀ j,j<n→listed.getD j true=true:=fun j hj=>List.all_eq_true.1 hB.1 j (List.mem_range.2 hj)
  rw [List.length_nil,Nat.zero_add]
  refine wpAnyT_of _ _ _ _ hl ?_
  have hdl:(ol.drop n).length=ops.size-n:=by subst hol; simp
  rw [← hdl]
  refine wpAny_of_seq (ol.drop n) n listed a w (fun j=>by subst hol; simp) ?_ h
  rw [hdl]; exact hB.2
 | (k,true)::l,listed,a,w,inv,hB,h=>by
  simp only [planB,Bool.and_eq_true,decide_eq_true_eq] at hB
  obtain ⟨⟨⟨hkn,hr⟩,hf⟩,hB'⟩:=hB
  obtain ⟨o,v,ho,hy,hS,h'⟩:=h
  have hr':k∈Region.ready md ops listed:=by simpa using hr
  rw [show ((k,true)::l).length+(ops.size-n)=(l.length+(ops.size-n))+1 by simp; omega]
  exact wpAnyT_first ho (Region.noSelect_spec hsel) hs hc hn hkn (fun c a w h=>(hQ c _ w h).elim) _ listed a w inv (Region.free_spec ho hf) hr' hy hS
   (wpAnyT_plan hol hsel hs hc hn hQ l _ _ _ (inv.set hr' hkn) hB' h')
 | (k,false)::l,listed,a,w,inv,hB,h=>by
  simp only [planB,Bool.and_eq_true,decide_eq_true_eq] at hB
  obtain ⟨⟨hkn,hr⟩,hB'⟩:=hB
  rw [show ((k,false)::l).length+(ops.size-n)=(l.length+(ops.size-n))+1 by simp; omega]
  refine ⟨fun h0=>(by rw [h0] at hr; cases hr),fun i hi=>?_⟩
  have hi':=hi
  rw [hr] at hi'
  obtain rfl:i=k:=by simpa using hi'
  exact wpOp_mono (fun a' w' h3=>⟨fun _=>h3.1,wpAnyT_plan hol hsel hs hc hn hQ l _ a' w' (inv.set hi hkn) hB' h3.2⟩) h
def tailB (md:Region.Mode) (ops:Array Oper) (n:Nat) (plan:List (Nat×Bool)):Bool :=
 Region.noSelect ops&&decide (n<ops.size)&&Region.sinkB md ops n&&Region.chainB md ops n&&decide (plan.length=n)&&planB md ops n plan (Array.replicate ops.size false)
theorem wp_region_plan {id:Nat} {a:Act} {w:World} {l:List Oper} (S:World→Prop) (n:Nat) (plan:List (Nat×Bool)) (hm:P.follows .mixedOrders=true) (hB:tailB .any l.toArray n plan=true)
 (h:wpHead P l.toArray (NoPanic Q) S (fun a' w'=>wpList P l.toArray (NoPanic Q) (l.drop n) a' w') plan a w.drew):(Code.region id l.toArray true).wp P Q a w:=by
 simp only [tailB,Bool.and_eq_true,decide_eq_true_eq] at hB
 obtain ⟨⟨⟨⟨⟨hsel,hn⟩,hs⟩,hc⟩,hlen⟩,hp⟩:=hB
 refine wp_region_noPanic ?_
 refine wp_region_any hm ?_
 have inv0:HeadInv .any l.toArray n (Array.replicate l.toArray.size false) :=
  ⟨by simp,fun j oj _ hl=>(by rw [getD_replicate_false] at hl; cases hl),fun t _ ht=>getD_in (by simpa using ht) (getD_replicate_false _ _)⟩
 have:=wpAnyT_plan (md:=.any) (Q:=NoPanic Q) (S:=S) rfl hsel hs hc hn (fun _ _ _ h=>h) plan _ a _ inv0 hp h
 rw [hlen,show n+(l.toArray.size-n)=l.toArray.size by omega] at this
 exact wpAny_of_T _ _ _ _ this
theorem headY {K:Act→World→Prop} {k:Nat} {o:Oper} {v:Value} {l:List (Nat×Bool)} {a:Act} {w:World} (d:Option Tmp) (ho:ops[k]?=some o) (hd:o.dst=d)
 (hy:YieldsIf P ops S o v a) (hS:S w) (h:wpHead P ops Q S K l (a.put d v) w):wpHead P ops Q S K ((k,true)::l) a w:=by
 subst hd; exact ⟨o,v,ho,hy,hS,h⟩
theorem headC {K:Act→World→Prop} {k:Nat} {o:Oper} {l:List (Nat×Bool)} {a:Act} {w:World} (ho:ops[k]?=some o)
 (h:∀ K':Act→World→Prop,(∀ a w,S w→wpHead P ops Q S K l a w→K' a w)→if Region.wanted o (yielded ops a.tmps)=true then Oper.wp P o a w K' Q else K' (a.put o.dst undef) w) :
 wpHead P ops Q S K ((k,false)::l) a w:=by
 show wpOp _ _ _ _ _ _ _
 unfold wpOp
 simp only [ho]
 have:=h (fun a' w'=>S w'∧wpHead P ops Q S K l a' w') (fun a w h1 h2=>⟨h1,h2⟩)
 split
 ·rename_i hw; rw [if_pos hw] at this; exact .inl this
 ·rename_i hw; rw [if_neg hw] at this; exact this
theorem head0 {K:Act→World→Prop} {a:Act} {w:World} (h:K a w):wpHead P ops Q S K [] a w:=h
end
section
variable {P:Program} {ops:Array Oper} {Q:Exit→Act→World→Prop} {S:World→Prop}
theorem pqY {K:Act→World→Prop} {k:Nat} {o:Oper} {v:Value} {l:List (Nat×Bool)} {a a':Act} {w:World} (d:Tmp) (hS:S w) (h:wpHead P ops Q S K l a' w) (ho:ops[k]?=some o:=by exact rfl) (hd:o.dst=some d:=by exact rfl)
 (hw:Region.wanted o (yielded ops a.tmps)=true:=by rfl) (hy:∀ W,S W→(execOp a.eval o).run P W=.ok (.value v) W:=by intro W' hs; (try subst hs); go_simp; (try with_reducible rfl)) (ha:a.put (some d) v=a':=by simp only [pq]; exact rfl) :
 wpHead P ops Q S K ((k,true)::l) a w:=by
 subst ha; exact headY (some d) ho hd (.inl ⟨hw,hy⟩) hS h
theorem pqN {K:Act→World→Prop} {k:Nat} {o:Oper} {l:List (Nat×Bool)} {a a':Act} {w:World} (d:Tmp) (hS:S w) (h:wpHead P ops Q S K l a' w) (ho:ops[k]?=some o:=by exact rfl) (hd:o.dst=some d:=by exact rfl)
 (hw:Region.wanted o (yielded ops a.tmps)=false:=by rfl) (ha:a.put (some d) undef=a':=by simp only [pq]; exact rfl):wpHead P ops Q S K ((k,true)::l) a w:=by
 subst ha; exact headY (some d) ho hd (.inr ⟨hw,rfl⟩) hS h
end
end Go.Proofs.YtncpnaoabkjegaaGreatDoor
