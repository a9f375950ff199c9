/-
  Walk: edenref12.Live.
  Walk: rule.Step at a rule and a word of its symbols.
  Walks: forms.symbol, forms.behind$1.
  Walk: forms.made, with a function that holds two things.
  Walks: forms.behind, forms.check, forms.wrong, forms.Compose.
  Pieces of a slice of ints: s[k:], s[k:l].
  Walks: forms.widened, forms.Widen and the function that they hand to forms.made.
  Plain mathematics: the preimages of a word, begin by begin; the next word; one preimage to each begin where the last place permutes.
  Walks: word.Check, word.Next.
  Walks: rule.Small, package overlap's first functions.
  Walks: overlap.Nodes, overlap.Edge at a small rule.
  Walks: forms.Widen at a rule, pairs.working.
  Walks: the two functions within pairs.Words.
  Rows of structs of two ints: append, the address of an element, what a list of such rows reads.
  Walk: pairs.arrows.
  Plain mathematics: an ascending list without its doubles.
  Walks: slices.Compact (its contract off the shelf) at a list of one's own.
-/
import Derived.Test.YtjiadfblphdchaaGreatDoorMVl5
import Derived.Deep.DeepCutAuto
import Derived.BigQuiet
import Derived.Ground.NamesProg
import Derived.Shelf.Slices.Cells
namespace Go.Proofs.YtjiadfblphdchaaGreatDoor
open Go.RowKit
set_option maxRecDepth 100000
/-- The memory of the peeling. -/
structure LvN (f : Names) (ov iv gv qv : Value) (n : Nat) (out inn : Nat → Nat) (gone : Nat → Bool) (q : List Nat) : Prop where
 outs : f (1,0) = some (rowI ov (tab n out))
 inns : f (2,0) = some (rowI iv (tab n inn))
 gones : f (3,0) = some (rowV 4 gv (tabB n gone))
 queue : f (4,0) = some (rowI qv (castI q))
section
variable {B : Nat} {w : World} {f : Names} {ov iv gv qv : Value} {n : Nat} {out inn : Nat → Nat} {gone : Nat → Bool} {q : List Nat}
theorem LvN.setOut (h : LvN f ov iv gv qv n out inn gone q) (hr : Rows B w f) (t : Nat) (ht : t < n) (a : Nat) : ∃ f',Rows B (w.setCell (valAt ov t) (.int .i64 (a : Int))) f' ∧ LvN f' ov iv gv qv n (updN out t a) inn gone q:=by
 have hs:=hr.setI h.outs t (by rw [tab_len]; exact ht) (a : Int)
 rw [tab_upd] at hs
 exact ⟨_,hs,⟨upd_same _ _ _,by rw [upd_ne _ _ (by simp)]; exact h.inns,by rw [upd_ne _ _ (by simp)]; exact h.gones,by rw [upd_ne _ _ (by simp)]; exact h.queue⟩⟩
theorem LvN.setInn (h : LvN f ov iv gv qv n out inn gone q) (hr : Rows B w f) (t : Nat) (ht : t < n) (a : Nat) : ∃ f',Rows B (w.setCell (valAt iv t) (.int .i64 (a : Int))) f' ∧ LvN f' ov iv gv qv n out (updN inn t a) gone q:=by
 have hs:=hr.setI h.inns t (by rw [tab_len]; exact ht) (a : Int)
 rw [tab_upd] at hs
 exact ⟨_,hs,⟨by rw [upd_ne _ _ (by simp)]; exact h.outs,upd_same _ _ _,by rw [upd_ne _ _ (by simp)]; exact h.gones,by rw [upd_ne _ _ (by simp)]; exact h.queue⟩⟩
theorem LvN.mark (h : LvN f ov iv gv qv n out inn gone q) (hr : Rows B w f) (t : Nat) (ht : t < n) : ∃ f',Rows B (w.setCell (valAt gv t) (.bool true)) f' ∧ LvN f' ov iv gv qv n out inn (updN gone t true) q:=by
 have hs:=hr.setV h.gones t (by rw [tabB_len]; exact ht) (.bool true)
 rw [tabB_upd] at hs
 exact ⟨_,hs,⟨by rw [upd_ne _ _ (by simp)]; exact h.outs,by rw [upd_ne _ _ (by simp)]; exact h.inns,upd_same _ _ _,by rw [upd_ne _ _ (by simp)]; exact h.queue⟩⟩
theorem LvN.push (h : LvN f ov iv gv qv n out inn gone q) (hr : Rows B w f) {w1 : World} {qv' : Value} (t : Nat) (ho : OwnI B w1 qv' (castI q ++ [(t : Int)]))
 (hal : (roomOf qv' = roomOf qv ∧ w.grownBy w1 qv.ownBlock) ∨ (∃ k,qv'.ownBlock = some k ∧ w.heap.size ≤ k ∧ w.grownBy w1 none)) : ∃ f',Rows B w1 f' ∧ LvN f' ov iv gv qv' n out inn gone (q ++ [t]) :=
 ⟨_,row_push hr h.queue t ho hal,⟨by rw [upd_ne _ _ (by simp)]; exact h.outs,by rw [upd_ne _ _ (by simp)]; exact h.inns,by rw [upd_ne _ _ (by simp)]; exact h.gones,upd_same _ _ _⟩⟩
/-- A number's cell. -/
theorem tab_cell (hr : Rows B w f) {i : Nat × Nat} {v : Value} {F : Nat → Nat} (hf : f i = some (rowI v (tab n F))) (t : Nat) (ht : t < n) :
 (∀ w',(Instr.indexAt 22 v (.int .i64 (t : Int))).run Tryz.prog w' = .ok (.pointer (some (valAt v t))) w') ∧ w.cell? (valAt v t) = some (.int .i64 (F t : Int)) ∧ w.frozen? (valAt v t) = false ∧ B ≤ (valAt v t).block:=by
 have hO:=hr.ownI hf
 refine ⟨fun w' => hO.at.idx t (by rw [tab_len]; exact ht) w',?_,hO.frz t (by rw [tab_len]; exact ht),(hO.toV.blkB t (by rw [List.length_map,tab_len]; exact ht)).2⟩
 rw [hO.at.cellD t (by rw [tab_len]; exact ht),tab_get _ _ _ ht]
/-- A mark's cell. -/
theorem mark_cell (hr : Rows B w f) {i : Nat × Nat} {v : Value} {F : Nat → Bool} (hf : f i = some (rowV 4 v (tabB n F))) (t : Nat) (ht : t < n) :
 (∀ w',(Instr.indexAt 131 v (.int .i64 (t : Int))).run Tryz.prog w' = .ok (.pointer (some (valAt v t))) w') ∧ w.cell? (valAt v t) = some (.bool (F t)) ∧ w.frozen? (valAt v t) = false ∧ B ≤ (valAt v t).block:=by
 have hO:=hr.ownV hf
 refine ⟨fun w' => hO.at.idx oneBoolG t (by rw [tabB_len]; exact ht) w',?_,hO.frz t (by rw [tabB_len]; exact ht),(hO.blkB t (by rw [tabB_len]; exact ht)).2⟩
 rw [hO.at.cellV t (by rw [tabB_len]; exact ht),tabB_get _ _ _ ht]
end
/-- The first k are F's. -/
def fillTo (F : Nat → Nat) (k t : Nat) : Nat:=if t < k then F t else 0
theorem fillTo_next (F : Nat → Nat) (k : Nat) : updN (fillTo F k) k (F k) = fillTo F (k + 1):=by
 funext t
 unfold fillTo
 by_cases e : t = k
 ·subst e; rw [updN_same,if_pos (by omega)]
 ·rw [updN_other _ _ _ e]
  by_cases q : t < k
  ·rw [if_pos q,if_pos (by omega)]
  ·rw [if_neg q,if_neg (by omega)]
theorem tab_congr {n : Nat} {f g : Nat → Nat} (h : ∀ t,t < n → f t = g t) : tab n f = tab n g:=by
 unfold tab
 exact List.map_congr_left fun t ht => by rw [h t (List.mem_range.1 ht)]
theorem fillTo_all (F : Nat → Nat) (n : Nat) : tab n (fillTo F n) = tab n F:=tab_congr fun t ht => by unfold fillTo; rw [if_pos ht]
theorem fillTo_zero (F : Nat → Nat) (n : Nat) : tab n (fillTo F 0) = List.replicate n 0:=by
 unfold tab
 apply List.ext_getElem
 ·simp
 ·intro i h1 h2; simp [fillTo]
theorem tabB_none (n : Nat) : tabB n (fun _ => false) = List.replicate n (.bool false):=by
 unfold tabB; apply List.ext_getElem <;> simp
theorem filter_next (p : Nat → Bool) (k : Nat) : (List.range (k + 1)).filter p = (List.range k).filter p ++ if p k = true then [k] else []:=by
 rw [List.range_succ,List.filter_append]
 by_cases h : p k = true
 ·rw [if_pos h,List.filter_cons_of_pos h]; rfl
 ·rw [if_neg h,List.filter_cons_of_neg h]; rfl
/-- Box3 below another block. -/
theorem Box3.keep {B : Nat} {w w' : World} {b : Nat} {x0 x1 x2 : Value} (h : Box3 w b x0 x1 x2) (hb : Below B w w') (hlt : b < B) : Box3 w' b x0 x1 x2:=h.belowB hb hlt
set_option maxHeartbeats 8000000 in
theorem ref12_live (na : Option Addr) (nc : Nat) (G : List (List Int)) (w : World) (h : ListsAt w (.slice na G.length nc) G) (hsz : ∀ k,k < G.length → (G.getD k []).length ≤ 17592186044416) :
 Calls Tryz.prog 136 #[.slice na G.length nc] w (Ret2 (RefPost w (checkG G) (fun x w' => ∃ L,LiveList G.length (adjOf G) L ∧ OwnI w.heap.size w' x (castI L))) w):=by
 have b0:=belowAlloc w (.cells #[.int .i64 0,.slice none 0 0,.slice none 0 0] 37)
 have bx : Box3 (w.alloc (.cells #[.int .i64 0,.slice none 0 0,.slice none 0 0] 37)) w.heap.size (.int .i64 0) (.slice none 0 0) (.slice none 0 0):=by
  have q:=cells3 (Below.refl (w.alloc (.cells #[.int .i64 0,.slice none 0 0,.slice none 0 0] 37)).heap.size (w.alloc (.cells #[.int .i64 0,.slice none 0 0,.slice none 0 0] 37)))
  exact ⟨⟨q.1,q.2.1,q.2.2.1⟩,q.2.2.2⟩
 have hsW : (w.alloc (.cells #[.int .i64 0,.slice none 0 0,.slice none 0 0] 37)).heap.size = w.heap.size + 1:=by simp
 have hC:=ref12_check na nc G _ (h.below b0) hsz
 replace hC:=Lib.hid hC
 replace bx:=Lib.hid bx
 replace hsW:=Lib.hid hsW
 replace h:=Lib.hid h
 replace hsz:=Lib.hid hsz
 go_enter Tryz.func136,Tryz.ntmps136
 go_wp2_with fail
 refine hC.out.mono ?_
 rintro e w1 ⟨x,rfl,b1,he⟩
 clear hC
 obtain ⟨q,a1,n1,c1,a2,n2,c2,rfl⟩:=he.shape
 obtain ⟨bb,bx2,hs2⟩:=err_box w1 (.int .i64 q) (.slice a1 n1 c1) (.slice a2 n2 c2)
 replace he:=Lib.hid he
 go_upto_region 2 with fail
 obtain ⟨W2,hW2⟩ : ∃ W2 : World,W2 = w1.alloc (.cells #[.int .i64 q,.slice a1 n1 c1,.slice a2 n2 c2] 37):=⟨_,rfl⟩
 rw [← hW2] at bb bx2 hs2 ⊢
 clear hW2
 obtain ⟨⟨y0,y1,y2⟩,_⟩:=bx2
 obtain ⟨eb,heb⟩ : ∃ eb,eb = w1.heap.size:=⟨_,rfl⟩
 rw [← heb] at y0 y1 y2 ⊢
 clear heb
 go_wp2_with fail
 refine (err_bad q a1 n1 c1 a2 n2 c2 W2).mono ?_
 rintro e w3 ⟨x,rfl,b3,rfl⟩
 have bW3:=Below.step bb b3
 have z0:=cell_keep b3 y0
 have z1:=cell_keep b3 y1
 have z2:=cell_keep b3 y2
 clear y0 y1 y2
 have bx3:=(bx.out.below b1).below bW3
 have b03:=Below.step b0 (Below.step b1 bW3)
 have he3:=he.out.below bW3
 have hsz3 : w.heap.size < w3.heap.size:=by have:=hsW.out; have:=b1.size; have:=bW3.size; omega
 cases hck : checkG G with
 | some t =>
  obtain ⟨n,l⟩:=t
  rw [hck] at he3
  have hn:=checkG_num hck
  obtain rfl : q = n:=by
   obtain ⟨_,_,_,_,_,_,e,_⟩:=he3
   simp at e; exact e.1
  rw [hn]
  obtain ⟨⟨r0,r1,r2⟩,f0,f1,f2⟩:=bx3
  replace he3:=Lib.hid he3
  replace hck:=Lib.hid hck
  replace he:=Lib.hid he
  have hE : checkG G = some (q,l):=hck.out
  replace hE:=Lib.hid hE
  go_upto_region 3 with fail
  refine wp_region_plan (fun w' => w'.cell? ⟨eb,0,none⟩ = some (.int .i64 q) ∧ w'.cell? ⟨eb,1,none⟩ = some (.slice a1 n1 c1) ∧ w'.cell? ⟨eb,2,none⟩ = some (.slice a2 n2 c2)) 2 [(0,true),(1,true)] (by kernel_rfl) (by kernel_rfl) ?_
  have hS : w3.drew.cell? ⟨eb,0,none⟩ = some (.int .i64 q) ∧ w3.drew.cell? ⟨eb,1,none⟩ = some (.slice a1 n1 c1) ∧ w3.drew.cell? ⟨eb,2,none⟩ = some (.slice a2 n2 c2):=⟨z0,z1,z2⟩
  refine pqY 23 hS ?_
  refine pqY 2 hS ?_
  refine head0 ?_
  simp only [List.drop_succ_cons,List.drop_zero]
  clear hS
  go_wp2
  refine NoPanic.normal ?_
  go_wp2
  refine bodyPost_ret (v:=.tuple #[.slice none 0 0,.agg #[.int .i64 q,.slice a1 n1 c1,.slice a2 n2 c2]]) (by simp [results,Tryz.results136,go_sem,r0,r1,r2]) rfl ⟨_,_,rfl,below_set3 (below_drewN b03 1) (by simp) _ _ _,?_⟩
  rw [hE.out]
  exact ⟨(he3.out.set3 (by have:=hsW.out; omega) _ _ _).mono (by have:=hsW.out; omega),⟨(fun q => (by cases q)),(fun _ => rfl)⟩⟩
 | none =>
  rw [hck] at he3
  have hz : (q = 0 ∧ (a1 = none ∧ n1 = 0 ∧ c1 = 0) ∧ a2 = none ∧ n2 = 0 ∧ c2 = 0):=by
   have e : (Value.agg #[.int .i64 q,.slice a1 n1 c1,.slice a2 n2 c2]) = zErr:=he3
   simpa using e
  obtain ⟨rfl,⟨rfl,rfl,rfl⟩,rfl,rfl,rfl⟩:=hz
  rw [show ((0 : Int) != 0) = false from rfl]
  have hck2:=checkG_none hck
  replace hck2:=Lib.hid hck2
  replace hck:=Lib.hid hck
  replace he:=Lib.hid he
  replace bx:=Lib.hid bx.out
  clear he3 z0 z1 z2
  have hok:=hck2.out.2.2
  have hn:=hck2.out.1
  have harr:=hck2.out.2.1
  have hlen : ∀ k,k < G.length → (G.getD k []).length ≤ 262144:=fun k hk => by
   have:=arrowsTo_mono G (show k + 1 ≤ G.length by omega)
   simp only [arrowsTo] at this; omega
  replace hok:=Lib.hid hok
  replace hlen:=Lib.hid hlen
  replace bx3:=Lib.hid bx3
  have hB3 : w.heap.size ≤ w3.heap.size:=b03.size
  go_wp2_with fail
  refine (ref_turned na nc G w3 (h.out.below b03) hok.out (by omega) harr).mono ?_
  rintro e w4 ⟨hv,rfl,b4,H,hT,hH⟩
  obtain ⟨ha,hc,rfl⟩:=hH.at.shape
  have hHl : H.length = G.length:=hT.t.1
  have hHok:=turned_ok hT.t
  have hHlen : ∀ k,k < G.length → (H.getD k []).length ≤ 262144:=fun k hk => by
   have:=hT.t.2.1 k hk; omega
  have hHat:=hH.at
  have hBx:=bx3.out.below b4
  have b04:=Below.step b03 b4
  have hG4:=h.out.below b04
  have hs4 : w.heap.size < w4.heap.size:=by have:=b4.size; omega
  rw [hHl] at hHat hH ⊢
  obtain ⟨ov,w5,mk1,ho1,b5⟩:=run_makeN G.length w4 (by omega)
  obtain ⟨iv,w6,mk2,ho2,b6⟩:=run_makeN G.length w5 (by omega)
  obtain ⟨gv,w7,mk3,ho3,b7⟩:=run_makeW oneBoolG (G.length : Int) G.length w6 rfl (by omega)
  have hAl:=fun t => show (adjOf G t).length = (G.getD t []).length from adjOf_len G t
  have hBl:=fun t => show (adjOf H t).length = (H.getD t []).length from adjOf_len H t
  rw [← fillTo_zero (fun t => (adjOf G t).length)] at ho1
  rw [← fillTo_zero (fun t => (adjOf H t).length)] at ho2
  rw [← tabB_none] at ho3
  have R1:=(rowsE w4.heap.size w4).add (i:=(1,0)) (r':=rowI ov (tab G.length (fillTo (fun t => (adjOf G t).length) 0))) b5 ho1 (fun k hk => (ho1.lt k hk).1)
  have R2:=R1.add (i:=(2,0)) (r':=rowI iv (tab G.length (fillTo (fun t => (adjOf H t).length) 0))) b6 (ho2.mono b5.size) (fun k hk => (ho2.lt k hk).1)
  have R3:=R2.add (i:=(3,0)) (r':=rowV 4 gv (tabB G.length (fun _ => false))) b7 (ho3.mono (Nat.le_trans b5.size b6.size)) (fun k hk => (ho3.lt k hk).1)
  have R4:=R3.add (i:=(4,0)) (r':=rowI (.slice none 0 0) []) (Below.refl _ _) (OwnI.nil _ _) (fun k hk => by cases hk)
  have b47 : Below w4.heap.size w4 w7:=Below.step (Below.step b5 b6) b7
  have hN4 : LvN (upd (upd (upd (upd (fun _ => none) (1,0) (some (rowI ov (tab G.length (fillTo (fun t => (adjOf G t).length) 0))))) (2,0) (some (rowI iv (tab G.length (fillTo (fun t => (adjOf H t).length) 0))))) (3,0) (some (rowV 4 gv (tabB G.length (fun _ => false))))) (4,0) (some (rowI (.slice none 0 0) []))) ov iv gv (.slice none 0 0) G.length (fillTo (fun t => (adjOf G t).length) 0) (fillTo (fun t => (adjOf H t).length) 0) (fun _ => false) [] :=
   ⟨by rw [upd_ne _ _ (by simp),upd_ne _ _ (by simp),upd_ne _ _ (by simp),upd_same],by rw [upd_ne _ _ (by simp),upd_ne _ _ (by simp),upd_same],by rw [upd_ne _ _ (by simp),upd_same],by rw [upd_same]; rfl⟩
  generalize upd (upd (upd (upd (fun _ => none) (1,0) (some (rowI ov (tab G.length (fillTo (fun t => (adjOf G t).length) 0))))) (2,0) (some (rowI iv (tab G.length (fillTo (fun t => (adjOf H t).length) 0))))) (3,0) (some (rowV 4 gv (tabB G.length (fun _ => false))))) (4,0) (some (rowI (.slice none 0 0) [])) = f4 at R4 hN4
  have hst : PStart G.length (adjOf G) (adjOf H) (fun _ => false) [] (IsLive G.length (adjOf G)) 0:=PStart.zero (fun t ht x hx => hok.out.lt t ht x hx) (fun t ht x hx => ((turned_adj hT.t hok.out ht).1 hx).1) (fun t v ht hv => hT.cnt t v ht hv)
  have hgpH : ∀ t,t < G.length → ∀ y ∈ H.getD t [],0 ≤ y ∧ y < G.length:=fun t ht y hy => by
   obtain ⟨v,rfl,hv,_⟩:=(hT.t.2.2 t ht y).1 hy
   omega
  replace hgpH:=Lib.hid hgpH
  replace hst:=Lib.hid hst
  replace hT:=Lib.hid hT
  replace hH:=Lib.hid hH
  replace hHat:=Lib.hid hHat
  replace hG4:=Lib.hid hG4
  replace hHok:=Lib.hid hHok
  replace hHlen:=Lib.hid hHlen
  replace hHl:=Lib.hid hHl
  replace hBx:=Lib.hid hBx
  replace hAl:=Lib.hid hAl
  replace hBl:=Lib.hid hBl
  replace ho1:=Lib.hid ho1
  replace ho2:=Lib.hid ho2
  replace ho3:=Lib.hid ho3
  replace R4:=Lib.hid R4
  clear R1 R2 R3
  go_wp2_with fail
  clear mk1 mk2 mk3
  go_loopw [9,10] (fun qv kv wr => ∃ (k : Nat) (gone : Nat → Bool) (q : List Nat) (f : Names) (qw : Value),qw = qv ∧ kv = .int .i64 k ∧ k ≤ G.length ∧ Rows w4.heap.size wr f ∧ Below w4.heap.size w4 wr ∧ LvN f ov iv gv qw G.length (fillTo (fun t => (adjOf G t).length) k) (fillTo (fun t => (adjOf H t).length) k) gone q ∧ PStart G.length (adjOf G) (adjOf H) gone q (IsLive G.length (adjOf G)) k) (fun _ kv _ => G.length - (intOf kv).toNat)
  case atStart => exact ⟨0,_,[],f4,_,rfl,rfl,by omega,R4.out,b47,hN4,hst.out⟩
  case round =>
   clear R4 b47 hN4 hst ho1 ho2 ho3 b5 b6 b7
   obtain ⟨k,gone,q,f,qv,rfl,rfl,hk,hr,bw,hN,hps⟩:=hrel
   obtain ⟨wo,rfl⟩ : ∃ wo : World,wo = wr:=⟨_,rfl⟩
   have hqlt:=nodup_len G.length q hps.peel.nodup hps.peel.low
   by_cases hlt : k < G.length
   ·obtain ⟨mv,iR,cR0,hM⟩:=hG4.out.row k hlt
    have hHat2 : ListsAt w4 (.slice ha G.length hc) H:=hHat.out
    obtain ⟨mh,iS,cS0,hMh⟩:=hHat2.row k (by have:=hHl.out; omega)
    have cR:=(bw.cell (World.block_lt_of_cell? _ _ cR0)).trans cR0
    have cS:=(bw.cell (World.block_lt_of_cell? _ _ cS0)).trans cS0
    have lM:=hM.len
    have lMh:=hMh.len
    rw [← hAl.out] at lM
    rw [← hBl.out] at lMh
    obtain ⟨iO,cO,fO,kO⟩:=tab_cell hr hN.outs k hlt
    obtain ⟨f1,hr1,hN1⟩:=hN.setOut hr k hlt (adjOf G k).length
    have bw1 : Below w4.heap.size w4 (wo.setCell (valAt ov k) (.int .i64 ((adjOf G k).length : Int))):=bw.setCell kO _
    obtain ⟨iI,cI,fI,kI⟩:=tab_cell hr1 hN1.inns k hlt
    obtain ⟨f2,hr2,hN2⟩:=hN1.setInn hr1 k hlt (adjOf H k).length
    have bw2 : Below w4.heap.size w4 ((wo.setCell (valAt ov k) (.int .i64 ((adjOf G k).length : Int))).setCell (valAt iv k) (.int .i64 ((adjOf H k).length : Int))):=bw1.setCell kI _
    obtain ⟨_,cO2,_,_⟩:=tab_cell hr2 hN2.outs k hlt
    obtain ⟨_,cI2,_,_⟩:=tab_cell hr2 hN2.inns k hlt
    rw [updN_same] at cO2 cI2
    have e1:=fillTo_next (fun t => (adjOf G t).length) k
    have e2:=fillTo_next (fun t => (adjOf H t).length) k
    rw [e1,e2] at hN2
    obtain ⟨iG,cG,fG,kG⟩:=mark_cell hr2 hN2.gones k hlt
    have cS1:=(bw1.cell (World.block_lt_of_cell? _ _ cS0)).trans cS0
    clear e1 e2
    have htk:=fun h0 => hps.take (live_set hT.out.t hok.out) hlt h0
    have hsk:=hps.skip
    obtain ⟨la,hla⟩ : ∃ la,(adjOf G k).length = la:=⟨_,rfl⟩
    obtain ⟨lb,hlb⟩ : ∃ lb,(adjOf H k).length = lb:=⟨_,rfl⟩
    rw [hla] at lM cO2 hr1 hr2 bw1 bw2 cI fI cI2 htk hsk cS1 cG fG
    rw [hlb] at lMh cO2 hr2 bw2 cI2 htk hsk cG fG
    generalize valAt ov k = oka at *
    generalize valAt iv k = ika at *
    generalize valAt (.slice na G.length nc) k = ra at *
    generalize valAt (.slice ha G.length hc) k = rb at *
    obtain ⟨gka,hgk⟩ : ∃ gka,valAt gv k = gka:=⟨_,rfl⟩
    rw [hgk] at iG cG fG kG
    replace hgk:=Lib.hid hgk
    replace hps:=Lib.hid hps
    replace htk:=Lib.hid htk
    replace hsk:=Lib.hid hsk
    replace hla:=Lib.hid hla
    replace hlb:=Lib.hid hlb
    replace hr:=Lib.hid hr
    replace hr1:=Lib.hid hr1
    replace hM:=Lib.hid hM
    replace hMh:=Lib.hid hMh
    replace cR0:=Lib.hid cR0
    replace cS0:=Lib.hid cS0
    replace hHat2:=Lib.hid hHat2
    generalize (fillTo (fun t => (adjOf G t).length) k k : Int) = old1 at cO
    generalize (fillTo (fun t => (adjOf H t).length) k k : Int) = old2 at cI
    go_upto_region 13 with fail
    obtain ⟨W1,hW1⟩ : ∃ W1 : World,W1 = wo.setCell oka (.int .i64 (la : Int)):=⟨_,rfl⟩
    rw [← hW1] at hr1 hr2 bw1 bw2 cI fI cI2 cO2 cS1 cG fG ⊢
    clear hW1 cO fO cR cS
    go_upto_region 14 with fail
    obtain ⟨W2,hW2⟩ : ∃ W2 : World,W2 = W1.setCell ika (.int .i64 (lb : Int)):=⟨_,rfl⟩
    rw [← hW2] at hr2 bw2 cI2 cO2 cG fG ⊢
    clear hW2 cI fI cS1
    by_cases hz : la = 0 ∨ lb = 0
    ·have htk2:=htk.out hz
     obtain ⟨f3,hr3,hN3⟩:=hN2.mark hr2 k hlt
     have bw3 : Below w4.heap.size w4 (W2.setCell (valAt gv k) (.bool true)):=bw2.setCell (by have:=(mark_cell hr2 hN2.gones k hlt).2.2.2; exact this) _
     have hgka : valAt gv k = gka:=hgk.out
     rw [hgka] at hr3 bw3
     replace hgka:=Lib.hid hgka
     replace htk2:=Lib.hid htk2
     replace hr2:=Lib.hid hr2
     replace hr3:=Lib.hid hr3
     by_cases hz1 : la = 0
     ·have hq1 : ((la : Int) == 0) = true:=by rw [beq_iff_eq]; omega
      replace hz1:=Lib.hid hz1
      replace hz:=Lib.hid hz
      go_upto_region 16 with fail
      obtain ⟨W3,hW3⟩ : ∃ W3 : World,W3 = W2.setCell gka (.bool true):=⟨_,rfl⟩
      rw [← hW3] at hr3 bw3 ⊢
      clear hW3 cO2 cI2 cG fG
      have hOQ:=hr3.out.ownI hN3.queue
      go_wp2_with (at_builtin; refine wpl_app1 rfl _ _ rfl w4.heap.size qv (castI q) k hOQ rfl rfl (by rw [castI_len]; omega) bw3.size ?_)
      intro qv' w7 ho7 b7 hal7
      obtain ⟨f7,hr7,hN7⟩:=hN3.push hr3.out k ho7 hal7
      replace hr7:=Lib.hid hr7
      replace ho7:=Lib.hid ho7
      clear hal7
      go_wp2
      go_roundw
      case measure => simp [intOf]; omega
      case rel => exact ⟨k + 1,_,_,f7,qv',rfl,by go_num,by omega,hr7.out,bw3.trans b7,hN7,htk2.out⟩
     ·have hq1 : ((la : Int) == 0) = false:=by rw [beq_eq_false_iff_ne]; omega
      have hq2 : ((lb : Int) == 0) = true:=by rw [beq_iff_eq]; omega
      replace hz1:=Lib.hid hz1
      replace hz:=Lib.hid hz
      go_upto_region 16 with fail
      obtain ⟨W3,hW3⟩ : ∃ W3 : World,W3 = W2.setCell gka (.bool true):=⟨_,rfl⟩
      rw [← hW3] at hr3 bw3 ⊢
      clear hW3 cO2 cI2 cG fG
      have hOQ:=hr3.out.ownI hN3.queue
      go_wp2_with (at_builtin; refine wpl_app1 rfl _ _ rfl w4.heap.size qv (castI q) k hOQ rfl rfl (by rw [castI_len]; omega) bw3.size ?_)
      intro qv' w7 ho7 b7 hal7
      obtain ⟨f7,hr7,hN7⟩:=hN3.push hr3.out k ho7 hal7
      replace hr7:=Lib.hid hr7
      replace ho7:=Lib.hid ho7
      clear hal7
      go_wp2
      go_roundw
      case measure => simp [intOf]; omega
      case rel => exact ⟨k + 1,_,_,f7,qv',rfl,by go_num,by omega,hr7.out,bw3.trans b7,hN7,htk2.out⟩
    ·have hq1 : ((la : Int) == 0) = false:=by rw [beq_eq_false_iff_ne]; omega
     have hq2 : ((lb : Int) == 0) = false:=by rw [beq_eq_false_iff_ne]; omega
     have hsk2:=hsk.out (by omega) (by omega)
     replace hsk2:=Lib.hid hsk2
     replace hr2:=Lib.hid hr2
     replace hz:=Lib.hid hz
     go_wp2
     go_roundw
     case measure => simp [intOf]; omega
     case rel => exact ⟨k + 1,gone,q,f2,qv,rfl,by go_num,by omega,hr2.out,bw2,hN2,hsk2.out⟩
   ·obtain rfl : k = G.length:=by omega
    have hN0 : LvN f ov iv gv qv G.length (fun t => (adjOf G t).length) (fun t => (adjOf H t).length) gone q :=
     ⟨by rw [← fillTo_all]; exact hN.outs,by rw [← fillTo_all]; exact hN.inns,hN.gones,hN.queue⟩
    have hps0:=hps.all
    have hbd0 : ∀ t,t < G.length → (adjOf H t).length ≤ 262144 ∧ (adjOf G t).length ≤ 262144:=fun t ht => ⟨by rw [hBl.out]; exact hHlen.out t ht,by rw [hAl.out]; exact hlen.out t ht⟩
    replace hps:=Lib.hid hps
    replace hps0:=Lib.hid hps0
    replace hbd0:=Lib.hid hbd0
    replace hr:=Lib.hid hr
    clear hN
    go_wp2_with fail
    go_loopw [9,11] (fun qv iv2 wr => ∃ (i : Nat) (inn out c d : Nat → Nat) (gone : Nat → Bool) (q : List Nat) (f : Names) (qw : Value),qw = qv ∧ iv2 = .int .i64 i ∧ i ≤ q.length ∧ Rows w4.heap.size wr f ∧ Below w4.heap.size w4 wr ∧ LvN f ov iv gv qw G.length out inn gone q ∧ PS G.length (adjOf G) (adjOf H) inn out c d gone q (IsLive G.length (adjOf G)) i ∧ ∀ t,t < G.length → inn t ≤ 262144 ∧ out t ≤ 262144) (fun _ iv2 _ => G.length + 1 - (intOf iv2).toNat)
    case atStart => exact ⟨0,_,_,_,_,gone,q,f,qv,rfl,rfl,by omega,hr.out,bw,hN0,hps0.out,hbd0.out⟩
    case round =>
     clear hr bw hN0 hps0 hbd0 hps hqlt
     obtain ⟨i,inn,out,c,d,gone,q,f,qv,rfl,rfl,hi,hr,bw,hN,hps,hbd⟩:=hrel
     obtain ⟨wo,rfl⟩ : ∃ wo : World,wo = wr:=⟨_,rfl⟩
     have hqlt:=nodup_len G.length q hps.peel.nodup hps.peel.low
     have hOQ:=hr.ownI hN.queue
     have lQ:=hOQ.at.len
     rw [castI_len] at lQ
     by_cases hil : i < q.length
     ·obtain ⟨v,hv⟩ : ∃ v,q[i]? = some v:=⟨_,List.getElem?_eq_getElem hil⟩
      obtain ⟨hmid,hcv,hdv,hvn⟩:=hps.enter hv
      have iV:=fun w' => hOQ.at.idx i (by rw [castI_len]; exact hil) w'
      have cV:=hOQ.at.cellD i (by rw [castI_len]; exact hil)
      rw [castI_get hv] at cV
      obtain ⟨mv,iR,cR0,hMG⟩:=hG4.out.row v hvn
      have hHat2 : ListsAt w4 (.slice ha G.length hc) H:=hHat.out
      obtain ⟨mh,iS,cS0,hMH⟩:=hHat2.row v (by have:=hHl.out; omega)
      have hgx:=hlen.out v hvn
      have hhx:=hHlen.out v hvn
      have hgpG:=hok.out v hvn
      have hgpHv:=hgpH.out v hvn
      have hadjG : adjOf G v = (G.getD v []).map Int.toNat:=rfl
      have hadjH : adjOf H v = (H.getD v []).map Int.toNat:=rfl
      generalize G.getD v [] = gx at *
      generalize H.getD v [] = hx at *
      have lM:=hMG.len
      have lMh:=hMH.len
      generalize valAt qv i = qa at *
      generalize valAt (.slice na G.length nc) v = ra at *
      generalize valAt (.slice ha G.length hc) v = rb at *
      replace hr:=Lib.hid hr
      replace hOQ:=Lib.hid hOQ
      replace hMG:=Lib.hid hMG
      replace hMH:=Lib.hid hMH
      replace cR0:=Lib.hid cR0
      replace cS0:=Lib.hid cS0
      replace hps:=Lib.hid hps
      replace hmid:=Lib.hid hmid
      replace hbd:=Lib.hid hbd
      replace hgpG:=Lib.hid hgpG
      replace hgpHv:=Lib.hid hgpHv
      replace hadjG:=Lib.hid hadjG
      replace hadjH:=Lib.hid hadjH
      replace hv:=Lib.hid hv
      replace hHat2:=Lib.hid hHat2
      go_wp2_with fail
      clear iV cV lQ hps hOQ hqlt hi hil
      go_loopw [9,13] (fun qv kv wr => ∃ (k : Nat) (inn out c d : Nat → Nat) (gone : Nat → Bool) (q : List Nat) (f : Names) (qw : Value),qw = qv ∧ kv = .int .i64 k ∧ k ≤ gx.length ∧ Rows w4.heap.size wr f ∧ Below w4.heap.size w4 wr ∧ LvN f ov iv gv qw G.length out inn gone q ∧ Mid G.length (adjOf G) (adjOf H) inn out c d gone q (IsLive G.length (adjOf G)) i v ∧ (c v = k ∧ d v = 0) ∧ ∀ t,t < G.length → inn t ≤ 262144 ∧ out t ≤ 262144) (fun _ kv _ => gx.length - (intOf kv).toNat)
      case atStart => exact ⟨0,inn,out,c,d,gone,q,f,qv,rfl,rfl,by omega,hr.out,bw,hN,hmid.out,⟨hcv,hdv⟩,hbd.out⟩
      case round =>
       clear hr bw hN hmid hcv hdv hbd
       obtain ⟨k,inn,out,c,d,gone,q,f,qv,rfl,rfl,hk,hr,bw,hN,hmid,⟨hcv,hdv⟩,hbd⟩:=hrel
       obtain ⟨wo,rfl⟩ : ∃ wo : World,wo = wr:=⟨_,rfl⟩
       have cRm:=(bw.cell (World.block_lt_of_cell? _ _ cR0.out)).trans cR0.out
       have hal : (adjOf G v).length = gx.length:=by rw [hadjG.out]; simp
       have hqlt:=nodup_len G.length q hmid.peel.nodup hmid.peel.low
       by_cases hlk : k < gx.length
       ·obtain ⟨t,ht⟩ : ∃ t,(adjOf G v)[k]? = some t:=⟨_,List.getElem?_eq_getElem (by omega)⟩
        have hgt : gx.getD k 0 = (t : Int) ∧ t < G.length:=by
         have hg:=hgpG.out gx[k] (List.getElem_mem hlk)
         have e:=ht
         rw [hadjG.out,List.getElem?_map,List.getElem?_eq_getElem hlk] at e
         injection e with e
         rw [List.getD_eq_getElem?_getD,List.getElem?_eq_getElem hlk,Option.getD_some]
         omega
        obtain ⟨hgd,htn⟩:=hgt
        obtain ⟨h0,hmk,hno⟩:=hmid.step (live_set hT.out.t hok.out) hcv ht htn
        have hMo:=hMG.out.below bw
        have iT:=fun w' => hMo.idx k hlk w'
        have cT:=hMo.cellD k hlk
        rw [hgd] at cT
        obtain ⟨iA,cA,fA,kA⟩:=tab_cell hr hN.inns t htn
        obtain ⟨b,hb⟩ : ∃ b,inn t = b + 1:=⟨inn t - 1,by omega⟩
        have hbb:=hbd t htn
        have hb1 : inn t - 1 = b:=by omega
        rw [hb1] at hmk hno
        rw [hb] at cA
        have hwr : IntKind.i64.wrap (b : Int) = (b : Int):=wrapK (by omega) (by omega)
        have hcast : ((b + 1 : Nat) : Int) = (b : Int) + 1:=by omega
        rw [hcast] at cA
        obtain ⟨f1,hr1,hN1⟩:=hN.setInn hr t htn b
        have bw1 : Below w4.heap.size w4 (wo.setCell (valAt iv t) (.int .i64 (b : Int))):=bw.setCell kA _
        obtain ⟨_,cA1,_,_⟩:=tab_cell hr1 hN1.inns t htn
        rw [updN_same] at cA1
        obtain ⟨iG,cG,fG,kG⟩:=mark_cell hr1 hN1.gones t htn
        have hbd2 : ∀ x,x < G.length → updN inn t b x ≤ 262144 ∧ out x ≤ 262144:=fun x hx => by
         have:=hbd x hx
         by_cases e : x = t
         ·subst e; rw [updN_same]; omega
         ·rw [updN_other _ _ _ e]; exact this
        replace hbd2:=Lib.hid hbd2
        replace hbd:=Lib.hid hbd
        generalize valAt iv t = ta at *
        generalize valAt mv k = ja at *
        obtain ⟨gg,hgg⟩ : ∃ gg,gone t = gg:=⟨_,rfl⟩
        rw [hgg] at cG hmk hno
        replace hr:=Lib.hid hr
        replace hMo:=Lib.hid hMo
        replace hmid:=Lib.hid hmid
        replace ht:=Lib.hid ht
        replace hgd:=Lib.hid hgd
        replace hb:=Lib.hid hb
        replace hb1:=Lib.hid hb1
        replace hcast:=Lib.hid hcast
        replace hgg:=Lib.hid hgg
        replace hmk:=Lib.hid hmk
        replace hno:=Lib.hid hno
        replace hal:=Lib.hid hal
        replace cRm0:=Lib.hid cRm
        go_upto_region 26 with fail
        obtain ⟨W1,hW1⟩ : ∃ W1 : World,W1 = wo.setCell ta (.int .i64 (b : Int)):=⟨_,rfl⟩
        rw [← hW1] at hr1 bw1 cA1 cG fG ⊢
        clear hW1 cA fA cT iT cRm
        by_cases hb0 : b = 0
        ·have hbq : ((b : Int) == 0) = true:=by rw [beq_iff_eq]; omega
         cases gg with
         | false =>
          have hm2:=hmk.out (by rw [hb.out]; omega) rfl
          obtain ⟨f2,hr2,hN2⟩:=hN1.mark hr1 t htn
          have bw2 : Below w4.heap.size w4 (W1.setCell (valAt gv t) (.bool true)):=bw1.setCell kG _
          generalize valAt gv t = ga at *
          replace hm2:=Lib.hid hm2
          replace hr1:=Lib.hid hr1
          replace hr2:=Lib.hid hr2
          replace hb0:=Lib.hid hb0
          go_upto_region 28 with fail
          obtain ⟨W2,hW2⟩ : ∃ W2 : World,W2 = W1.setCell ga (.bool true):=⟨_,rfl⟩
          rw [← hW2] at hr2 bw2 ⊢
          clear hW2 cA1 cG fG iG iA
          have hOQ:=hr2.out.ownI hN2.queue
          go_wp2_with (at_builtin; refine wpl_app1 rfl _ _ rfl w4.heap.size qv (castI q) t hOQ rfl rfl (by rw [castI_len]; omega) bw2.size ?_)
          intro qv' w7 ho7 b7 hal7
          obtain ⟨f7,hr7,hN7⟩:=hN2.push hr2.out t ho7 hal7
          replace hr7:=Lib.hid hr7
          replace ho7:=Lib.hid ho7
          clear hal7
          go_wp2
          go_roundw
          case measure => simp [intOf]; omega
          case rel => exact ⟨k + 1,updN inn t b,out,updN c v (k + 1),d,_,_,f7,qv',rfl,by go_num,by omega,hr7.out,bw2.trans b7,hN7,hm2.out,⟨updN_same _ _ _,hdv⟩,hbd2.out⟩
         | true =>
          have hm2:=hno.out (fun _ => rfl)
          replace hm2:=Lib.hid hm2
          replace hr1:=Lib.hid hr1
          replace hb0:=Lib.hid hb0
          go_wp2
          go_roundw
          case measure => simp [intOf]; omega
          case rel => exact ⟨k + 1,updN inn t b,out,updN c v (k + 1),d,gone,q,f1,qv,rfl,by go_num,by omega,hr1.out,bw1,hN1,hm2.out,⟨updN_same _ _ _,hdv⟩,hbd2.out⟩
        ·have hbq : ((b : Int) == 0) = false:=by rw [beq_eq_false_iff_ne]; omega
         have hm2:=hno.out (fun q => by rw [hb.out] at q; omega)
         replace hm2:=Lib.hid hm2
         replace hr1:=Lib.hid hr1
         replace hb0:=Lib.hid hb0
         go_wp2
         go_roundw
         case measure => simp [intOf]; omega
         case rel => exact ⟨k + 1,updN inn t b,out,updN c v (k + 1),d,gone,q,f1,qv,rfl,by go_num,by omega,hr1.out,bw1,hN1,hm2.out,⟨updN_same _ _ _,hdv⟩,hbd2.out⟩
       ·obtain rfl : k = gx.length:=by omega
        rw [← hal] at hcv
        replace hmid:=Lib.hid hmid
        replace hbd:=Lib.hid hbd
        replace hr:=Lib.hid hr
        replace hal:=Lib.hid hal
        go_wp2_with fail
        clear cRm hqlt
        go_loopw [9,15] (fun qv kv wr => ∃ (k : Nat) (inn out c d : Nat → Nat) (gone : Nat → Bool) (q : List Nat) (f : Names) (qw : Value),qw = qv ∧ kv = .int .i64 k ∧ k ≤ hx.length ∧ Rows w4.heap.size wr f ∧ Below w4.heap.size w4 wr ∧ LvN f ov iv gv qw G.length out inn gone q ∧ Mid G.length (adjOf G) (adjOf H) inn out c d gone q (IsLive G.length (adjOf G)) i v ∧ (c v = (adjOf G v).length ∧ d v = k) ∧ ∀ t,t < G.length → inn t ≤ 262144 ∧ out t ≤ 262144) (fun _ kv _ => hx.length - (intOf kv).toNat)
        case atStart => exact ⟨0,inn,out,c,d,gone,q,f,qv,rfl,rfl,by omega,hr.out,bw,hN,hmid.out,⟨hcv,hdv⟩,hbd.out⟩
        case round =>
         clear hr bw hN hmid hcv hdv hbd
         obtain ⟨k,inn,out,c,d,gone,q,f,qv,rfl,rfl,hk,hr,bw,hN,hmid,⟨hcv,hdv⟩,hbd⟩:=hrel
         obtain ⟨wo,rfl⟩ : ∃ wo : World,wo = wr:=⟨_,rfl⟩
         have cRm:=(bw.cell (World.block_lt_of_cell? _ _ cS0.out)).trans cS0.out
         have hal : (adjOf H v).length = hx.length:=by rw [hadjH.out]; simp
         have hqlt:=nodup_len G.length q hmid.peel.nodup hmid.peel.low
         by_cases hlk : k < hx.length
         ·obtain ⟨t,ht⟩ : ∃ t,(adjOf H v)[k]? = some t:=⟨_,List.getElem?_eq_getElem (by omega)⟩
          have hgt : hx.getD k 0 = (t : Int) ∧ t < G.length:=by
           have hg:=hgpHv.out hx[k] (List.getElem_mem hlk)
           have e:=ht
           rw [hadjH.out,List.getElem?_map,List.getElem?_eq_getElem hlk] at e
           injection e with e
           rw [List.getD_eq_getElem?_getD,List.getElem?_eq_getElem hlk,Option.getD_some]
           omega
          obtain ⟨hgd,htn⟩:=hgt
          obtain ⟨h0,hmk,hno⟩:=hmid.swap.step (live_set hT.out.t hok.out).swap hdv ht htn
          have hMo:=hMH.out.below bw
          have iT:=fun w' => hMo.idx k hlk w'
          have cT:=hMo.cellD k hlk
          rw [hgd] at cT
          obtain ⟨iA,cA,fA,kA⟩:=tab_cell hr hN.outs t htn
          obtain ⟨b,hb⟩ : ∃ b,out t = b + 1:=⟨out t - 1,by omega⟩
          have hbb:=hbd t htn
          have hb1 : out t - 1 = b:=by omega
          rw [hb1] at hmk hno
          rw [hb] at cA
          have hwr : IntKind.i64.wrap (b : Int) = (b : Int):=wrapK (by omega) (by omega)
          have hcast : ((b + 1 : Nat) : Int) = (b : Int) + 1:=by omega
          rw [hcast] at cA
          obtain ⟨f1,hr1,hN1⟩:=hN.setOut hr t htn b
          have bw1 : Below w4.heap.size w4 (wo.setCell (valAt ov t) (.int .i64 (b : Int))):=bw.setCell kA _
          obtain ⟨_,cA1,_,_⟩:=tab_cell hr1 hN1.outs t htn
          rw [updN_same] at cA1
          obtain ⟨iG,cG,fG,kG⟩:=mark_cell hr1 hN1.gones t htn
          have hbd2 : ∀ x,x < G.length → inn x ≤ 262144 ∧ updN out t b x ≤ 262144:=fun x hx => by
           have:=hbd x hx
           by_cases e : x = t
           ·subst e; rw [updN_same]; omega
           ·rw [updN_other _ _ _ e]; exact this
          replace hbd2:=Lib.hid hbd2
          replace hbd:=Lib.hid hbd
          generalize valAt ov t = ta at *
          generalize valAt mh k = ja at *
          obtain ⟨gg,hgg⟩ : ∃ gg,gone t = gg:=⟨_,rfl⟩
          rw [hgg] at cG hmk hno
          replace hr:=Lib.hid hr
          replace hMo:=Lib.hid hMo
          replace hmid:=Lib.hid hmid
          replace ht:=Lib.hid ht
          replace hgd:=Lib.hid hgd
          replace hb:=Lib.hid hb
          replace hb1:=Lib.hid hb1
          replace hcast:=Lib.hid hcast
          replace hgg:=Lib.hid hgg
          replace hmk:=Lib.hid hmk
          replace hno:=Lib.hid hno
          replace hal:=Lib.hid hal
          replace cRm0:=Lib.hid cRm
          go_upto_region 34 with fail
          obtain ⟨W1,hW1⟩ : ∃ W1 : World,W1 = wo.setCell ta (.int .i64 (b : Int)):=⟨_,rfl⟩
          rw [← hW1] at hr1 bw1 cA1 cG fG ⊢
          clear hW1 cA fA cT iT cRm
          by_cases hb0 : b = 0
          ·have hbq : ((b : Int) == 0) = true:=by rw [beq_iff_eq]; omega
           cases gg with
           | false =>
            have hm2:=hmk.out (by rw [hb.out]; omega) rfl
            obtain ⟨f2,hr2,hN2⟩:=hN1.mark hr1 t htn
            have bw2 : Below w4.heap.size w4 (W1.setCell (valAt gv t) (.bool true)):=bw1.setCell kG _
            generalize valAt gv t = ga at *
            replace hm2:=Lib.hid hm2
            replace hr1:=Lib.hid hr1
            replace hr2:=Lib.hid hr2
            replace hb0:=Lib.hid hb0
            go_upto_region 36 with fail
            obtain ⟨W2,hW2⟩ : ∃ W2 : World,W2 = W1.setCell ga (.bool true):=⟨_,rfl⟩
            rw [← hW2] at hr2 bw2 ⊢
            clear hW2 cA1 cG fG iG iA
            have hOQ:=hr2.out.ownI hN2.queue
            go_wp2_with (at_builtin; refine wpl_app1 rfl _ _ rfl w4.heap.size qv (castI q) t hOQ rfl rfl (by rw [castI_len]; omega) bw2.size ?_)
            intro qv' w7 ho7 b7 hal7
            obtain ⟨f7,hr7,hN7⟩:=hN2.push hr2.out t ho7 hal7
            replace hr7:=Lib.hid hr7
            replace ho7:=Lib.hid ho7
            clear hal7
            go_wp2
            go_roundw
            case measure => simp [intOf]; omega
            case rel => exact ⟨k + 1,inn,updN out t b,c,updN d v (k + 1),_,_,f7,qv',rfl,by go_num,by omega,hr7.out,bw2.trans b7,hN7,hm2.out.swap,⟨hcv,updN_same _ _ _⟩,hbd2.out⟩
           | true =>
            have hm2:=hno.out (fun _ => rfl)
            replace hm2:=Lib.hid hm2
            replace hr1:=Lib.hid hr1
            replace hb0:=Lib.hid hb0
            go_wp2
            go_roundw
            case measure => simp [intOf]; omega
            case rel => exact ⟨k + 1,inn,updN out t b,c,updN d v (k + 1),gone,q,f1,qv,rfl,by go_num,by omega,hr1.out,bw1,hN1,hm2.out.swap,⟨hcv,updN_same _ _ _⟩,hbd2.out⟩
          ·have hbq : ((b : Int) == 0) = false:=by rw [beq_eq_false_iff_ne]; omega
           have hm2:=hno.out (fun q => by rw [hb.out] at q; omega)
           replace hm2:=Lib.hid hm2
           replace hr1:=Lib.hid hr1
           replace hb0:=Lib.hid hb0
           go_wp2
           go_roundw
           case measure => simp [intOf]; omega
           case rel => exact ⟨k + 1,inn,updN out t b,c,updN d v (k + 1),gone,q,f1,qv,rfl,by go_num,by omega,hr1.out,bw1,hN1,hm2.out.swap,⟨hcv,updN_same _ _ _⟩,hbd2.out⟩
         ·obtain rfl : k = hx.length:=by omega
          have hps2:=hmid.leave hcv (by rw [hdv,hal])
          have hil2:=get_of hmid.cur
          replace hps2:=Lib.hid hps2
          replace hmid:=Lib.hid hmid
          replace hbd:=Lib.hid hbd
          replace hr:=Lib.hid hr
          replace hal:=Lib.hid hal
          go_wp2
          go_roundw
          case measure => simp [intOf]; omega
          case rel => exact ⟨i + 1,inn,out,c,d,gone,q,f,qv,rfl,by go_num,by omega,hr.out,bw,hN,hps2.out,hbd.out⟩
     ·obtain rfl : i = q.length:=by omega
      have hend:=hps.end_ hT.out.t hok.out
      have hR5:=hr.add (i:=(5,0)) (r':=rowI (.slice none 0 0) []) (Below.refl _ _) (OwnI.nil _ _) (fun k hk => by cases hk)
      have hg5 : upd f (5,0) (some (rowI (.slice none 0 0) [])) (3,0) = some (rowV 4 gv (tabB G.length gone)):=by rw [upd_ne _ _ (by simp)]; exact hN.gones
      have hl5 : upd f (5,0) (some (rowI (.slice none 0 0) [])) (5,0) = some (rowI (.slice none 0 0) (castI [])):=by rw [upd_same]; rfl
      generalize upd f (5,0) (some (rowI (.slice none 0 0) [])) = f5 at hR5 hg5 hl5
      replace hend:=Lib.hid hend
      replace hR5:=Lib.hid hR5
      replace hg5:=Lib.hid hg5
      replace hl5:=Lib.hid hl5
      replace hps:=Lib.hid hps
      replace hbd:=Lib.hid hbd
      replace hr:=Lib.hid hr
      replace hOQ:=Lib.hid hOQ
      go_wp2_with fail
      go_loopw [17,18] (fun lv kv wr => ∃ (k : Nat) (f : Names) (lw : Value),lw = lv ∧ kv = .int .i64 k ∧ k ≤ G.length ∧ Rows w4.heap.size wr f ∧ Below w4.heap.size w4 wr ∧ f (3,0) = some (rowV 4 gv (tabB G.length gone)) ∧ f (5,0) = some (rowI lw (castI ((List.range k).filter fun t => !gone t)))) (fun _ kv _ => G.length - (intOf kv).toNat)
      case atStart => exact ⟨0,f5,_,rfl,rfl,by omega,hR5.out,bw,hg5.out,hl5.out⟩
      case round =>
       clear hR5 hg5 hl5 hr bw hN hOQ
       obtain ⟨k,f,lv,rfl,rfl,hk,hr,bw,hf3,hf5⟩:=hrel
       obtain ⟨wo,rfl⟩ : ∃ wo : World,wo = wr:=⟨_,rfl⟩
       have hOL:=hr.ownI hf5
       have hll : ((List.range k).filter fun t => !gone t).length ≤ 10000:=by
        have:=List.length_filter_le (fun t => !gone t) (List.range k)
        rw [List.length_range] at this; omega
       by_cases hlk : k < G.length
       ·obtain ⟨iG,cG,fG,kG⟩:=mark_cell hr hf3 k hlk
        have hfn:=filter_next (fun t => !gone t) k
        generalize valAt gv k = ga at *
        obtain ⟨gg,hgg⟩ : ∃ gg,gone k = gg:=⟨_,rfl⟩
        rw [hgg] at cG
        simp only [hgg] at hfn
        generalize (List.range k).filter (fun t => !gone t) = L at *
        cases gg with
        | true =>
         rw [if_neg (by decide),List.append_nil] at hfn
         rw [← hfn] at hf5
         replace hfn:=Lib.hid hfn
         replace hf3:=Lib.hid hf3
         replace hf5:=Lib.hid hf5
         replace hr:=Lib.hid hr
         replace hOL:=Lib.hid hOL
         replace hgg:=Lib.hid hgg
         go_wp2
         go_roundw
         case measure => simp [intOf]; omega
         case rel => exact ⟨k + 1,f,lv,rfl,by go_num,by omega,hr.out,bw,hf3.out,hf5.out⟩
        | false =>
         rw [if_pos (by decide)] at hfn
         replace hfn:=Lib.hid hfn
         replace hf3:=Lib.hid hf3
         replace hf5:=Lib.hid hf5
         replace hr:=Lib.hid hr
         replace hgg:=Lib.hid hgg
         go_wp2_with (at_builtin; refine wpl_app1 rfl _ _ rfl w4.heap.size lv (castI L) k hOL rfl rfl (by rw [castI_len]; omega) bw.size ?_)
         intro lv' w7 ho7 b7 hal7
         have R7:=row_push hr.out hf5.out k ho7 hal7
         replace R7:=Lib.hid R7
         replace ho7:=Lib.hid ho7
         clear hal7
         go_wp2
         go_roundw
         case measure => simp [intOf]; omega
         case rel => exact ⟨k + 1,_,lv',rfl,by go_num,by omega,R7.out,bw.trans b7,(upd_ne _ _ (by simp)).trans hf3.out,by rw [upd_same,hfn.out]⟩
       ·obtain rfl : k = G.length:=by omega
        obtain ⟨⟨s0,s1,s2⟩,g0,g1,g2⟩:=hBx.out.keep bw hs4
        have bwe:=b04.trans (bw.mono (Nat.le_of_lt hs4))
        replace hOL:=Lib.hid hOL
        replace hr:=Lib.hid hr
        replace hf3:=Lib.hid hf3
        replace hf5:=Lib.hid hf5
        go_wp2
        refine bodyPost_ret (v:=.tuple #[lv,zErr]) (by simp [results,Tryz.results136,go_sem,s0,s1,s2]) rfl ⟨_,_,rfl,below_set3 bwe (by simp) _ _ _,?_⟩
        rw [hck.out]
        exact ⟨rfl,⟨(fun _ => ⟨_,hend.out,(hOL.out.set3 hs4 _ _ _).mono (Nat.le_of_lt hs4)⟩),(fun q => absurd rfl q)⟩⟩
end Go.Proofs.YtjiadfblphdchaaGreatDoor
namespace Go.Proofs.YtjiadfblphdchaaGreatDoor
open Go.RowKit
set_option maxRecDepth 100000
end Go.Proofs.YtjiadfblphdchaaGreatDoor
namespace Go.Proofs.YtjiadfblphdchaaGreatDoor
open Go.RowKit
set_option maxRecDepth 100000
theorem symbol_any (K R : Nat) (va : Option Addr) (vn vc : Nat) (T : List Int) (u : Value) (ys : List Int) (w : World) (h : IntsAt w (.slice va vn vc) T) (hr : RuleOk K R T) (hu : IntsAt w u ys) (hy : Syms K ys) (hyl : ys.length = 2 * R + 1) :
 Calls Tryz.prog 91 #[.agg #[.int .i64 K,.int .i64 R,.slice va vn vc],u] w (Ret1 (fun x _ => x = .int .i64 (T.getD (numW K ys) 0)) w):=by
 have hb0:=belowAlloc w (.cells #[.int .i64 K,.int .i64 R,.slice va vn vc] 24)
 have hR:=hr.r3
 have hk1:=hr.k1
 have hk4:=hr.k4
 have l1:=hu.len
 have hb7 : ys.length ≤ 7:=by omega
 have hnl : numW K ys < T.length:=by rw [hr.len,← hyl]; exact numW_lt ys hy
 generalize hy0 : T.getD (numW K ys) 0 = y0
 replace hy0:=Lib.hid hy0
 replace hnl:=Lib.hid hnl
 replace hyl:=Lib.hid hyl
 replace h:=Lib.hid (h.below hb0)
 replace hu:=Lib.hid (hu.below hb0)
 replace hy:=Lib.hid hy
 replace hr:=Lib.hid hr
 obtain ⟨ua,un,uc,rfl⟩:=hu.out.shape
 go_enter Tryz.func91,Tryz.ntmps91
 go_wp2
 go_loop [5,10] (fun n i => ∃ j : Nat,j ≤ ys.length ∧ i = .int .i64 j ∧ n = .int .i64 (numW K (ys.take j))) (fun _ i => ys.length - (intOf i).toNat)
 case atStart => exact ⟨0,by omega,rfl,rfl⟩
 case round =>
  obtain ⟨j,hj,rfl,rfl⟩:=hrel
  by_cases hjl : j < ys.length
  ·have i1:=hu.out.idx j hjl
   have c1:=hu.out.cell j hjl
   have hx:=hy.out ys[j] (by simp)
   have hn : Hid (numW K (ys.take (j + 1)) = numW K (ys.take j) * K + ys[j].toNat):=by
    show _ = _
    rw [take_snoc ys j hjl,numW_snoc]
   have hn2 : numW K (ys.take j) ≤ 16384:=by
    have h1:=numW_lt (ys.take j) (fun x hx => hy.out x (List.mem_of_mem_take hx))
    have h2:=pw_le hk1 hk4 (i:=(ys.take j).length) (by simp; omega)
    omega
   generalize ys[j] = x at c1 hx hn
   generalize numW K (ys.take j) = N at hn hn2
   have hm1 : 0 ≤ (N : Int) * (K : Int):=Int.mul_nonneg (by omega) (by omega)
   have hm2 : (N : Int) * (K : Int) ≤ 65536:=by
    have : N * K ≤ 65536:=Nat.mul_le_mul hn2 hk4
    have h2:=Int.ofNat_le.2 this
    rw [Int.natCast_mul] at h2
    exact h2
   go_wp2
   go_round
   case rel => exact ⟨j + 1,by omega,by go_num,by rw [hn.out]; go_num⟩
   case measure => simp [intOf]; omega
  ·obtain rfl : j = ys.length:=by omega
   rw [List.take_length]
   have i2:=h.out.idx (numW K ys) hnl.out
   have c2:=h.out.cellD (numW K ys) hnl.out
   rw [hy0.out] at c2
   clear hy0 hnl
   generalize numW K ys = N at i2 c2
   go_wp2
   go_ret
   exact ⟨_,rfl,hb0,rfl⟩
end Go.Proofs.YtjiadfblphdchaaGreatDoor
namespace Go.Proofs.YtjiadfblphdchaaGreatDoor
open Go.RowKit
set_option maxRecDepth 100000
/-- The table of a function of windows. -/
def madeP (K n : Nat) (s : List Int → Int) (m : Nat) : List Int:=(List.range m).map fun x => s (digs K n x)
theorem madeP_length (K n : Nat) (s : List Int → Int) (m : Nat) : (madeP K n s m).length = m:=by simp [madeP]
theorem madeP_set (K n : Nat) (s : List Int → Int) (m P : Nat) (h : m < P) : (madeP K n s m ++ List.replicate (P - m) (0 : Int)).set m (s (digs K n m)) = madeP K n s (m + 1) ++ List.replicate (P - (m + 1)) 0:=by
 rw [List.set_append_right _ _ (by rw [madeP_length]; exact Nat.le_refl _),madeP_length,Nat.sub_self,show P - m = (P - (m + 1)) + 1 by omega,List.replicate_succ,List.set_cons_zero,madeP,madeP,List.range_succ,List.map_append,List.append_assoc]
 rfl
set_option maxHeartbeats 800000 in
theorem made_two0 (K R F : Nat) (c1 c2 : Value) (s : List Int → Int) (w : World) (hk1 : 1 ≤ K) (hk4 : K ≤ 4) (hR : R ≤ 3)
 (eg : ∀ args w,(callFunc F args).run Tryz.prog w = .ok (.enter F args) w)
 (hF : ∀ (v : Value) (ys : List Int) (w' : World),Below w.heap.size w w' → IntsAt w' v ys → Syms K ys → ys.length = 2 * R + 1 → Calls Tryz.prog F #[v,c1,c2] w' (Ret1 (fun x _ => x = .int .i64 (s ys)) w')) :
 Calls Tryz.prog 89 #[.int .i64 K,.int .i64 R,.func (.func F) #[] #[c1,c2]] w (Ret1 (fun x w' => ∃ a n c,x = .agg #[.int .i64 K,.int .i64 R,.slice a n c] ∧ OwnI w.heap.size w' (.slice a n c) (madeP K (2 * R + 1) s (pw K (2 * R + 1)))) w):=by
 have hpl:=pw_le hk1 hk4 (i:=2 * R + 1) (by omega)
 replace hF:=Lib.hid hF
 go_enter Tryz.func89,Tryz.ntmps89
 go_wp2_with fail
 refine (size_ok K R _ hk1 hk4 hR).mono ?_
 rintro e w' ⟨rfl,rfl⟩
 go_wp2_with fail
 have hb0:=belowAlloc w (.cells #[.int .i64 0,.int .i64 0,.slice none 0 0] 24)
 obtain ⟨tv,w1,hmk,ho1,hb1⟩:=run_makeI ((pw K (2 * R + 1) : Nat) : Int) (pw K (2 * R + 1)) (w.alloc (.cells #[.int .i64 0,.int .i64 0,.slice none 0 0] 24)) rfl (by omega)
 obtain ⟨ta,tn,tc,rfl⟩:=ho1.at.shape
 rw [hmk]
 simp only [Result.andThen]
 clear hmk
 generalize hN : 2 * R + 1 = N at *
 go_wp2_with fail
 obtain ⟨wv,w2,hmk2,ho2,hb2⟩:=run_makeI (2 * (R : Int) + 1) N (w1.alloc (.cells #[.int .i64 K,.int .i64 R,.slice ta tn tc] 24)) (by omega) (by omega)
 obtain ⟨wa,wn,wc,rfl⟩:=ho2.at.shape
 rw [hmk2]
 simp only [Result.andThen]
 clear hmk2
 obtain ⟨z0,z1,z2,-,-,-⟩:=cells3 hb2
 have lt:=(ho1.at.len)
 rw [List.length_replicate] at lt
 have hN7 : N ≤ 7:=by omega
 replace hN:=Lib.hid hN
 have ltb : ∀ k,(Value.slice ta tn tc).ownBlock = some k → k < w1.heap.size:=fun k hk => (ho1.lt k hk).2
 have lwn:=ho2.at.len
 rw [List.length_replicate] at lwn
 have ho1':=Lib.hid ((ho1.alloc (.cells #[.int .i64 K,.int .i64 R,.slice ta tn tc] 24)).below hb2)
 have zz:=Lib.hid (And.intro z0 (And.intro z1 z2))
 have hbw:=Lib.hid (hb1.trans ((Below.step (belowAlloc w1 (.cells #[.int .i64 K,.int .i64 R,.slice ta tn tc] 24)) hb2).mono hb1.size))
 replace ho2:=Lib.hid ho2
 replace ltb:=Lib.hid ltb
 have hsz1:=hb1.size
 simp at hsz1
 have hM : pw K N = pw K N:=rfl
 clear hM
 go_wp2
 go_loopw [32] (fun i wr => ∃ m : Nat,m ≤ pw K N ∧ i = .int .i64 m ∧ OwnI (w.heap.size + 1) wr (.slice ta tn tc) (madeP K N s m ++ List.replicate (pw K N - m) 0) ∧ (∃ p : List Int,p.length = N ∧ OwnI (w1.heap.size + 1) wr (.slice wa wn wc) p) ∧
  (wr.cell? ⟨w1.heap.size,0,none⟩ = some (.int .i64 K) ∧ wr.cell? ⟨w1.heap.size,1,none⟩ = some (.int .i64 R) ∧ wr.cell? ⟨w1.heap.size,2,none⟩ = some (.slice ta tn tc)) ∧
  Below (w.heap.size + 1) (w.alloc (.cells #[.int .i64 0,.int .i64 0,.slice none 0 0] 24)) wr) (fun i _ => pw K N - (intOf i).toNat)
 case atStart => exact ⟨0,by omega,rfl,by simpa [madeP] using ho1'.out,⟨List.replicate N 0,by simp,by simpa using ho2.out⟩,zz.out,by simpa using hbw.out⟩
 case round =>
  obtain ⟨m,hm,rfl,hT,⟨p,hp,hP⟩,hz,hbO⟩:=hrel
  obtain ⟨wo,rfl⟩ : ∃ wo : World,wo = wr:=⟨_,rfl⟩
  replace hz:=Lib.hid hz
  replace hT:=Lib.hid hT
  by_cases hml : m < pw K N
  ·have hsz2 : w1.heap.size < wo.heap.size:=World.block_lt_of_cell? _ _ hz.out.1
   have hK0 : ((K : Int) == 0) = false:=by rw [beq_eq_false_iff_ne]; omega
   have hK1 : ¬ (K : Int) = 0:=by omega
   have hK2 : (0 : Int) < K:=by omega
   go_wp2
   go_loopw [12,38] (fun x i wr => ∃ j : Nat,j ≤ N ∧ i = .int .i64 j ∧ x = .int .i64 (m / pw K j : Nat) ∧ OwnI (w1.heap.size + 1) wr (.slice wa wn wc) (p.take (N - j) ++ (digs K N m).drop (N - j)) ∧ Below (w1.heap.size + 1) wo wr) (fun _ i _ => N - (intOf i).toNat)
   case atStart => exact ⟨0,by omega,rfl,by simp [pw],by rw [Nat.sub_zero,List.drop_of_length_le (by rw [digs_length]; exact Nat.le_refl _),List.append_nil,List.take_of_length_le (by omega)]; exact hP,Below.refl _ _⟩
   case round =>
    obtain ⟨j,hj,rfl,rfl,hO,hbI⟩:=hrel
    obtain ⟨wi,rfl⟩ : ∃ wi : World,wi = wr:=⟨_,rfl⟩
    by_cases hjl : j < N
    ·have hXl : (p.take (N - j) ++ (digs K N m).drop (N - j)).length = N:=by simp [digs_length]; omega
     have i1 : ∀ w',(Instr.indexAt 22 (.slice wa wn wc) (.int .i64 ((N : Int) - 1 - (j : Int)))).run Tryz.prog w' = .ok (.pointer (some (valAt (.slice wa wn wc) (N - 1 - j)))) w':=by
      intro w'
      have:=hO.at.idxI ((N : Int) - 1 - (j : Int)) (by omega) (by rw [hXl]; omega) w'
      rwa [show ((N : Int) - 1 - (j : Int)).toNat = N - 1 - j by omega] at this
     have c1:=hO.at.cellD (N - 1 - j) (by rw [hXl]; omega)
     have f1:=hO.frz (N - 1 - j) (by rw [hXl]; omega)
     have hS:=hO.set (N - 1 - j) (by rw [hXl]; omega) ((m / pw K j % K : Nat) : Int)
     have hbS:=hO.setBelow hbI (N - 1 - j) (by rw [hXl]; omega) (.int .i64 ((m / pw K j % K : Nat) : Int))
     rw [digs_fill K N m j hjl p hp] at hS
     replace hS:=Lib.hid hS
     replace hbS:=Lib.hid hbS
     have hqd : m / pw K j / K = m / pw K (j + 1):=by rw [Nat.div_div_eq_div_mul,← pw_succ]
     replace hqd:=Lib.hid hqd
     have hql : m / pw K j ≤ 16384:=Nat.le_trans (Nat.div_le_self _ _) (by omega)
     generalize (p.take (N - j) ++ (digs K N m).drop (N - j)).getD (N - 1 - j) 0 = y at c1
     clear hXl hO
     generalize m / pw K j = q at *
     rw [Int.natCast_emod] at hS hbS
     have hd0 : 0 ≤ (q : Int) / (K : Int):=Int.ediv_nonneg (by omega) (by omega)
     have hd1 : (q : Int) / (K : Int) ≤ 16384:=by
      have h1 : q / K ≤ q:=Nat.div_le_self _ _
      have h2 : q / K ≤ 16384:=by omega
      exact_mod_cast h2
     have hdw : IntKind.i64.wrap ((q : Int) / (K : Int)) = (q : Int) / (K : Int):=wrapK (by omega) (by omega)
     go_wp2
     go_roundw
     case rel => exact ⟨j + 1,by omega,by go_num,by rw [← hqd.out]; simp,hS.out,hbS.out⟩
     case measure => simp [intOf]; omega
    ·have hjN : j = N:=by omega
     subst hjN
     rw [Nat.sub_self,List.take_zero,List.drop_zero,List.nil_append] at hO
     have hbW : Below w.heap.size w wi:=((belowAlloc w _).trans (hbO.mono (by omega))).trans (hbI.mono (by omega))
     have hz2:=hbI.cell (p:=⟨w1.heap.size,2,none⟩) (by simp)
     have hTl : m < (madeP K j s m ++ List.replicate (pw K j - m) (0 : Int)).length:=by simp [madeP_length]; omega
     have hTi:=hT.out.belowB hbI (fun k hk => by have:=ltb.out k hk; omega)
     have i2:=hTi.at.idx m hTl
     have c2:=hTi.at.cellD m hTl
     have f2:=hTi.frz m hTl
     have b2:=hTi.at.blk m hTl
     have z2i:=hz2.trans hz.out.2.2
     have zbi : (⟨w1.heap.size,2,none⟩ : Addr).block < wi.heap.size:=World.block_lt_of_cell? _ _ z2i
     generalize (madeP K j s m ++ List.replicate (pw K j - m) (0 : Int)).getD m 0 = o at c2
     replace hTi:=Lib.hid hTi
     replace hO:=Lib.hid hO
     replace hbW:=Lib.hid hbW
     replace hTl:=Lib.hid hTl
     clear hz2
     have hvb : (valAt (.slice ta tn tc) m).block ≠ w1.heap.size:=by
      have:=ltb.out _ (hT.out.toV.blkB m (by simpa using hTl.out)).1
      omega
     have hdl : m + 1 ≤ pw K j:=hml
     go_wp2
     go_region_held3 (fun w' => w'.cell? ⟨w1.heap.size,2,none⟩ = some (.slice ta tn tc)) (go_keep)
      (first | (refine (hF.out _ (digs K j m) _ (by first | exact hbW.out.drew | exact hbW.out) (by first | exact hO.out.at.drew | exact hO.out.at) (digs_syms hk1 _ _) (by rw [digs_length])).mono ?_; rintro e w5 ⟨x5,rfl,hb5,rfl⟩; have y1:=(hb5.cell zbi).trans z2i; have y2:=(hb5.cell b2).trans c2; have y3:=(hb5.frozen b2).trans f2; have bb : Below wi.heap.size wi w5:=((Below.refl _ _).drew).trans hb5))
     have hT5:=(hTi.out.drew.below hb5).set m hTl.out (s (digs K j m))
     rw [madeP_set K j s m _ hml] at hT5
     have hO5:=(hO.out.drew.below hb5).setOther (hTi.out.drew.below hb5) (by
      intro e
      have e1:=(hT.out.toV.blkB m (by simpa using hTl.out)).1
      have e2:=(hO.out.lt _ (e.trans e1)).1
      have e3:=ltb.out _ e1
      omega) m hTl.out (.int .i64 (s (digs K j m)))
     have hB5:=((hbO.trans (hbI.mono (by omega))).trans (bb.mono (by omega))).setCell ((hTi.out.blkB m hTl.out)) (.int .i64 (s (digs K j m)))
     have x0:=(World.cell?_setCell_far w5 (valAt (.slice ta tn tc) m) ⟨w1.heap.size,0,none⟩ (.int .i64 (s (digs K j m))) hvb).trans (((bb.cell (p:=⟨w1.heap.size,0,none⟩) zbi)).trans ((hbI.cell (p:=⟨w1.heap.size,0,none⟩) (by simp)).trans hz.out.1))
     have x1:=(World.cell?_setCell_far w5 (valAt (.slice ta tn tc) m) ⟨w1.heap.size,1,none⟩ (.int .i64 (s (digs K j m))) hvb).trans (((bb.cell (p:=⟨w1.heap.size,1,none⟩) zbi)).trans ((hbI.cell (p:=⟨w1.heap.size,1,none⟩) (by simp)).trans hz.out.2.1))
     have x2:=(World.cell?_setCell_far w5 (valAt (.slice ta tn tc) m) ⟨w1.heap.size,2,none⟩ (.int .i64 (s (digs K j m))) hvb).trans y1
     have xx:=Lib.hid (And.intro x0 (And.intro x1 x2))
     clear x0 x1 x2
     replace hT5:=Lib.hid hT5
     replace hO5:=Lib.hid hO5
     replace hB5:=Lib.hid hB5
     go_wp2
     go_roundw
     case rel => exact ⟨m + 1,by omega,by go_num,hT5.out,⟨digs K j m,digs_length ..,hO5.out⟩,xx.out,hB5.out⟩
     case measure => simp [intOf]; omega
  ·obtain rfl : m = pw K N:=by omega
   rw [Nat.sub_self,List.replicate_zero,List.append_nil] at hT
   obtain ⟨z0,z1,z2⟩:=hz.out
   obtain ⟨y0,y1,y2,f0,f1,f2⟩:=cells3 (w:=w) (show Below (w.alloc (.cells #[.int .i64 0,.int .i64 0,.slice none 0 0] 24)).heap.size _ wo by simpa using hbO)
   replace hbO:=Lib.hid hbO
   go_wp2
   refine bodyPost_ret (v:=.agg #[.int .i64 K,.int .i64 R,.slice ta tn tc]) (by simp [results,Tryz.results89,go_sem,y0,y1,y2]) rfl ⟨_,rfl,?_,ta,tn,tc,rfl,?_⟩
   ·exact (((belowAlloc w _).trans (hbO.out.mono (by omega))).setCell (by simp) _).setCell (by simp) _ |>.setCell (by simp) _
   ·rw [hN.out]; exact (((hT.out.setBelowBase (a:=⟨w.heap.size,0,none⟩) (by simp) _).setBelowBase (a:=⟨w.heap.size,1,none⟩) (by simp) _).setBelowBase (a:=⟨w.heap.size,2,none⟩) (by simp) _).mono (Nat.le_succ _)
theorem made_two (K R F : Nat) (c1 c2 : Value) (s : List Int → Int) (w : World) (hk1 : 1 ≤ K) (hk4 : K ≤ 4) (hR : R ≤ 3) (Ri : Int) (hRi : Ri = R)
 (eg : ∀ args w,(callFunc F args).run Tryz.prog w = .ok (.enter F args) w)
 (hF : ∀ (v : Value) (ys : List Int) (w' : World),Below w.heap.size w w' → IntsAt w' v ys → Syms K ys → ys.length = 2 * R + 1 → Calls Tryz.prog F #[v,c1,c2] w' (Ret1 (fun x _ => x = .int .i64 (s ys)) w')) :
 Calls Tryz.prog 89 #[.int .i64 K,.int .i64 Ri,.func (.func F) #[] #[c1,c2]] w (Ret1 (fun x w' => ∃ a n c,x = .agg #[.int .i64 K,.int .i64 R,.slice a n c] ∧ OwnI w.heap.size w' (.slice a n c) (madeP K (2 * R + 1) s (pw K (2 * R + 1)))) w):=by
 subst hRi
 exact made_two0 K R F c1 c2 s w hk1 hk4 hR eg hF
end Go.Proofs.YtjiadfblphdchaaGreatDoor
namespace Go.Proofs.YtjiadfblphdchaaGreatDoor
open Go.RowKit
set_option maxRecDepth 100000
abbrev zR : Value:=.agg #[.int .i64 0,.int .i64 0,.slice none 0 0]
def sForms : ByteArray:=⟨#[102,111,114,109,115]⟩
theorem forms_check (r : Nat → Addr) (at_ : Int) (k R : Int) (va : Option Addr) (vn vc : Nat) (xs : List Int) (w : World) (hg : Glob r w) (h : IntsAt w (.slice va vn vc) xs) :
 Calls Tryz.prog 46 #[.int .i64 at_,.agg #[.int .i64 k,.int .i64 R,.slice va vn vc]] w (Ret1 (fun x w' => ErrIs r w' (under sForms at_ (checkP k R xs)) x) w):=by
 have hb0:=belowAlloc w (.cells #[.int .i64 k,.int .i64 R,.slice va vn vc] 24)
 replace hg:=Lib.hid (hg.below hb0)
 replace h:=Lib.hid (h.below hb0)
 go_enter Tryz.func46,Tryz.ntmps46
 go_wp2_with fail
 refine (check_any r k R _ xs _ hg.out h.out).mono ?_
 rintro e w1 ⟨x,rfl,hb,he⟩
 go_wp2_with fail
 refine (under_any r _ _ _ _ _ he).mono ?_
 rintro e w2 ⟨x,rfl,hb',he⟩
 go_wp2
 go_ret
 exact ⟨_,rfl,Below.step hb0 (Below.step hb hb'),he⟩
end Go.Proofs.YtjiadfblphdchaaGreatDoor
namespace Go.Proofs.YtjiadfblphdchaaGreatDoor
open Go.RowKit
theorem IntsAt.piece {w : World} {a : Option Addr} {cap : Nat} {xs : List Int} (h : IntsAt w (.slice a xs.length cap) xs) (k l : Nat) (hk : k ≤ l) (hl : l ≤ xs.length) :
 IntsAt w (sliced a k l cap 1) ((xs.take l).drop k):=by
 obtain ⟨a',cap',e,h1,h2,h3,h4⟩:=h
 injection e with e1 _ e3
 subst e1 e3
 have hlen : ((xs.take l).drop k).length = l - k:=by simp; omega
 refine ⟨if cap = k then a else a.map (·.add (k * 1)),cap - k,by rw [hlen]; rfl,by rw [hlen]; omega,by omega,?_,fun i hi => ?_⟩
 ·intro hn
  by_cases hc : cap = k
  ·omega
  ·rw [if_neg hc] at hn
   have:=h3 (Option.map_eq_none_iff.1 hn)
   omega
 ·rw [hlen] at hi
  have hc : ¬ cap = k:=by omega
  show w.cell? (valAt (.slice (if cap = k then a else a.map (·.add (k * 1))) _ _) i) = _
  rw [if_neg hc]
  cases a with
  | none => have:=h3 rfl; omega
  | some p =>
   have h5:=h4 (k + i) (by omega)
   simp only [valAt] at h5
   show w.cell? ((p.add (k * 1)).add i) = _
   rw [Nat.mul_one,show (p.add k).add i = p.add (k + i) by unfold Addr.add; by_cases hk0 : k = 0 <;> by_cases hi0 : i = 0 <;> simp [hk0,hi0,Nat.add_assoc],h5]
   simp
/-- s[k:]. -/
theorem IntsAt.post {w : World} {v : Value} {xs : List Int} (h : IntsAt w v xs) (k : Nat) (hk : k ≤ xs.length) :
 ∃ u,(∀ w',(Instr.slice 22 v (some (.int .i64 k)) none none).run Tryz.prog w' = .ok u w') ∧ IntsAt w u (xs.drop k):=by
 have h':=h
 obtain ⟨a,cap,rfl,_⟩:=h'
 refine ⟨sliced a k xs.length cap 1,fun w' => ?_,?_⟩
 ·rw [run_slice_l w' 22 a xs.length cap uIntsE .i64 k (by omega) (by omega),eInts,sInt]
  rfl
 ·have:=h.piece k xs.length hk (Nat.le_refl _)
  rwa [List.take_length] at this
/-- s[k:l]. -/
theorem IntsAt.mid {w : World} {v : Value} {xs : List Int} (h : IntsAt w v xs) (k l : Nat) (hk : k ≤ l) (hl : l ≤ xs.length) :
 ∃ u,(∀ w',(Instr.slice 22 v (some (.int .i64 k)) (some (.int .i64 l)) none).run Tryz.prog w' = .ok u w') ∧ IntsAt w u ((xs.take l).drop k):=by
 have h':=h
 obtain ⟨a,cap,rfl,h1,_⟩:=h'
 refine ⟨sliced a k l cap 1,fun w' => ?_,h.piece k l hk hl⟩
 rw [run_slice_lh w' 22 a xs.length cap uIntsE .i64 .i64 k l (by omega) (by omega) (by omega),eInts,sInt]
 rfl
/-- s[:l]. -/
theorem IntsAt.front {w : World} {v : Value} {xs : List Int} (h : IntsAt w v xs) (l : Nat) (hl : l ≤ xs.length) :
 ∃ u,(∀ w',(Instr.slice 22 v none (some (.int .i64 l)) none).run Tryz.prog w' = .ok u w') ∧ IntsAt w u (xs.take l):=by
 have h':=h
 obtain ⟨a,cap,rfl,h1,_⟩:=h'
 refine ⟨sliced a 0 l cap 1,fun w' => ?_,?_⟩
 ·rw [run_slice_h w' 22 a xs.length cap uIntsE .i64 l (by omega) (by omega),eInts,sInt]
  rfl
 ·have:=h.piece 0 l (Nat.zero_le _) hl
  simpa using this
end Go.Proofs.YtjiadfblphdchaaGreatDoor
namespace Go.Proofs.YtjiadfblphdchaaGreatDoor
open Go.RowKit
set_option maxRecDepth 100000
set_option maxHeartbeats 1000000 in
theorem widened1_any (K R d : Nat) (va : Option Addr) (vn vc : Nat) (T : List Int) (p q : Nat) (v : Value) (ys : List Int) (w : World)
 (h : IntsAt w (.slice va vn vc) T) (hr : RuleOk K R T) (hv : IntsAt w v ys) (hy : Syms K ys) (hyl : ys.length = 2 * (R + d) + 1)
 (hRd : R + d ≤ 3)
 (x0 : w.cell? ⟨p,0,none⟩ = some (.int .i64 K)) (x1 : w.cell? ⟨p,1,none⟩ = some (.int .i64 R)) (x2 : w.cell? ⟨p,2,none⟩ = some (.slice va vn vc)) (x3 : w.cell? ⟨q,0,none⟩ = some (.int .i64 d)) :
 Calls Tryz.prog 90 #[v,.pointer (some ⟨p,0,none⟩),.pointer (some ⟨q,0,none⟩)] w (Ret1 (fun x _ => x = .int .i64 (T.getD (numW K ((ys.drop d).take (2 * R + 1))) 0)) w):=by
 have lv:=hv.len
 obtain ⟨u,hu,hiu⟩:=hv.mid d (ys.length - d) (by omega) (by omega)
 have eL : (ys.take (ys.length - d)).drop d = (ys.drop d).take (2 * R + 1):=by
  rw [List.drop_take]; congr 1; omega
 rw [eL] at hiu
 have hD : (ys.length : Int) - (d : Int) = ((ys.length - d : Nat) : Int):=by omega
 have hle : ys.length ≤ 7:=by omega
 have hsy : Syms K ((ys.drop d).take (2 * R + 1)):=syms_take (syms_drop hy _) _
 have hsl : ((ys.drop d).take (2 * R + 1)).length = 2 * R + 1:=by simp; omega
 generalize hY : T.getD (numW K ((ys.drop d).take (2 * R + 1))) 0 = Y
 generalize (ys.drop d).take (2 * R + 1) = zs at *
 obtain ⟨e,hee⟩ : ∃ e,ys.length - d = e:=⟨_,rfl⟩
 rw [hee] at hD hu
 have he7 : e ≤ 7:=by omega
 have hwe : IntKind.i64.wrap (e : Int) = e:=wrapK (by omega) (by omega)
 obtain ⟨L,hL⟩ : ∃ L,ys.length = L:=⟨_,rfl⟩
 rw [hL] at lv hD hle
 have hd3 : d ≤ 3:=by omega
 replace hY:=Lib.hid hY
 replace h:=Lib.hid h
 replace hv:=Lib.hid hv
 replace hy:=Lib.hid hy
 replace hsy:=Lib.hid hsy
 replace hsl:=Lib.hid hsl
 replace hyl:=Lib.hid hyl
 replace hr:=Lib.hid hr
 replace hiu:=Lib.hid hiu
 replace hL:=Lib.hid hL
 clear hee eL
 go_enter Tryz.func90,Tryz.ntmps90
 go_upto_region 1 with fail
 refine wp_region_plan (fun w' => w'.cell? ⟨p,0,none⟩ = some (.int .i64 K) ∧ w'.cell? ⟨p,1,none⟩ = some (.int .i64 R) ∧ w'.cell? ⟨p,2,none⟩ = some (.slice va vn vc) ∧ w'.cell? ⟨q,0,none⟩ = some (.int .i64 d)) 9 [(0,true),(1,true),(2,true),(3,true),(4,true),(5,true),(6,true),(7,true),(8,false)] (by kernel_rfl) (by kernel_rfl) ?_
 have hS : w.drew.cell? ⟨p,0,none⟩ = some (.int .i64 K) ∧ w.drew.cell? ⟨p,1,none⟩ = some (.int .i64 R) ∧ w.drew.cell? ⟨p,2,none⟩ = some (.slice va vn vc) ∧ w.drew.cell? ⟨q,0,none⟩ = some (.int .i64 d):=⟨x0,x1,x2,x3⟩
 refine pqY 5 hS ?_
 refine pqY 6 hS ?_
 refine pqY 7 hS ?_
 refine pqY 8 hS ?_
 refine pqY 9 hS ?_
 refine pqY 10 hS ?_
 refine pqY 11 hS ?_
 refine pqY 12 hS ?_
 refine headC rfl (fun KK hK => ?_)
 go_simp
 refine (symbol_any K R va vn vc T u zs _ h.out.drew hr.out hiu.out.drew hsy.out hsl.out).mono ?_
 rintro e w1 ⟨x,rfl,b1,rfl⟩
 rw [hY.out]
 have hS1 : w1.cell? ⟨p,0,none⟩ = some (.int .i64 K) ∧ w1.cell? ⟨p,1,none⟩ = some (.int .i64 R) ∧ w1.cell? ⟨p,2,none⟩ = some (.slice va vn vc) ∧ w1.cell? ⟨q,0,none⟩ = some (.int .i64 d):=⟨cell_keep b1 hS.1,cell_keep b1 hS.2.1,cell_keep b1 hS.2.2.1,cell_keep b1 hS.2.2.2⟩
 refine hK _ _ hS1 ?_
 clear hK KK
 refine head0 ?_
 simp only [List.drop_succ_cons,List.drop_zero]
 clear hS hS1
 go_wp2
 refine NoPanic.normal ?_
 go_wp2
 go_ret
 exact ⟨_,rfl,Below.step ((Below.refl _ _).drew) b1,rfl⟩
theorem eg_widened1 (args : Array Value) (w : World) : (callFunc 90 args).run Tryz.prog w = .ok (.enter 90 args) w:=by kernel_rfl
theorem madeP_wide (K R d : Nat) (T : List Int) : madeP K (2 * (R + d) + 1) (fun ys => T.getD (numW K ((ys.drop d).take (2 * R + 1))) 0) (pw K (2 * (R + d) + 1)) = wideT K R d T:=rfl
set_option maxHeartbeats 1000000 in
theorem widened_any (K R d : Nat) (va : Option Addr) (vn vc : Nat) (T : List Int) (w : World) (h : IntsAt w (.slice va vn vc) T) (hr : RuleOk K R T) (hRd : R + d ≤ 3) (Ri : Int) (hRi : Ri = ((R + d : Nat) : Int)) :
 Calls Tryz.prog 47 #[.agg #[.int .i64 K,.int .i64 R,.slice va vn vc],.int .i64 Ri] w (Ret1 (fun x w' => ∃ a n c,x = .agg #[.int .i64 K,.int .i64 ((R + d : Nat) : Int),.slice a n c] ∧ OwnI w.heap.size w' (.slice a n c) (wideT K R d T)) w):=by
 have b0:=Below.step (belowAlloc w (.cells #[.int .i64 K,.int .i64 R,.slice va vn vc] 24)) (belowAlloc _ (.cells #[.int .i64 0,.int .i64 0,.slice none 0 0] 24))
 have b3:=Below.step b0 (belowAlloc _ (.cells #[.int .i64 d] 3))
 have q1 : Box3 (((w.alloc (.cells #[.int .i64 K,.int .i64 R,.slice va vn vc] 24)).alloc (.cells #[.int .i64 0,.int .i64 0,.slice none 0 0] 24)).alloc (.cells #[.int .i64 d] 3)) w.heap.size (.int .i64 K) (.int .i64 R) (.slice va vn vc):=by simp [Box3,go_sem]
 have q2 : Box3 (((w.alloc (.cells #[.int .i64 K,.int .i64 R,.slice va vn vc] 24)).alloc (.cells #[.int .i64 0,.int .i64 0,.slice none 0 0] 24)).alloc (.cells #[.int .i64 d] 3)) (w.heap.size + 1) (.int .i64 0) (.int .i64 0) (.slice none 0 0):=by simp [Box3,go_sem]
 have q3 : (((w.alloc (.cells #[.int .i64 K,.int .i64 R,.slice va vn vc] 24)).alloc (.cells #[.int .i64 0,.int .i64 0,.slice none 0 0] 24)).alloc (.cells #[.int .i64 d] 3)).cell? ⟨w.heap.size + 2,0,none⟩ = some (.int .i64 d):=by simp [go_sem]
 have hk1:=hr.k1
 have hk4:=hr.k4
 have hR3:=hr.r3
 have hsub : Ri - (R : Int) = (d : Int):=by omega
 have hRi3 : 0 ≤ Ri ∧ Ri ≤ 3:=by omega
 have h3:=h.below b3
 obtain ⟨W3,hW3⟩ : ∃ W3 : World,W3 = ((w.alloc (.cells #[.int .i64 K,.int .i64 R,.slice va vn vc] 24)).alloc (.cells #[.int .i64 0,.int .i64 0,.slice none 0 0] 24)).alloc (.cells #[.int .i64 d] 3):=⟨_,rfl⟩
 have s3 : W3.heap.size = w.heap.size + 3:=by rw [hW3]; simp
 rw [← hW3] at b3 q1 q2 q3 h3
 replace hRi:=Lib.hid hRi
 replace hr:=Lib.hid hr
 replace hW3:=Lib.hid hW3
 replace s3:=Lib.hid s3
 replace q2:=Lib.hid q2
 replace h3:=Lib.hid h3
 go_enter Tryz.func47,Tryz.ntmps47
 go_wp2_with fail
 rw [← hW3.out]
 refine (made_two K (R + d) _ (.pointer (some ⟨w.heap.size,0,none⟩)) (.pointer (some ⟨w.heap.size + 2,0,none⟩)) (fun ys => T.getD (numW K ((ys.drop d).take (2 * R + 1))) 0) W3 hk1 hk4 hRd Ri hRi.out eg_widened1 (fun v ys w' hB hv hy hyl => by
  have q11:=q1.below hB
  exact widened1_any K R d va vn vc T _ _ v ys w' (h3.out.below hB) hr.out hv hy hyl hRd q11.1.1 q11.1.2.1 q11.1.2.2 (cell_keep hB q3))).mono ?_
 rintro e w4 ⟨x,rfl,b4,a,n,c,rfl,ho⟩
 rw [madeP_wide] at ho
 obtain ⟨⟨y0,y1,y2⟩,f0,f1,f2⟩:=q2.out.below b4
 replace ho:=Lib.hid ho
 clear q1 q3
 go_wp2
 refine bodyPost_ret (v:=.agg #[.int .i64 K,.int .i64 ((R + d : Nat) : Int),.slice a n c]) (by simp [results,Tryz.results47,go_sem,y0,y1,y2]) rfl ⟨_,rfl,below_set3 (Below.step b3 b4) (Nat.le_succ _) _ _ _,a,n,c,rfl,?_⟩
 have:=s3.out
 exact (((ho.out.setBelowBase (a:=⟨w.heap.size + 1,0,none⟩) (by simp; omega) _).setBelowBase (a:=⟨w.heap.size + 1,1,none⟩) (by simp; omega) _).setBelowBase (a:=⟨w.heap.size + 1,2,none⟩) (by simp; omega) _).mono (by omega)
end Go.Proofs.YtjiadfblphdchaaGreatDoor
namespace Go.Proofs.YtjiadfblphdchaaGreatDoor
/-- How many begin so. -/
def begins (n : Nat) (ends l : List Int) : Bool:=decide (n ≤ l.length) && decide (l.take n = ends)
/-- The next word: the last symbols, all K - 1, become 0; the one ahead of them is one more. -/
theorem numW_rep_max {K : Nat} (hK : 1 ≤ K) (j : Nat) : numW K (List.replicate j ((K : Int) - 1)) + 1 = pw K j:=by
 induction j with
 | zero => rfl
 | succ j ih =>
  rw [List.replicate_succ',numW_snoc,pw_succ,← ih]
  have : ((K : Int) - 1).toNat = K - 1:=by omega
  rw [this,Nat.add_mul]
  omega
theorem numW_rep_zero (K j : Nat) : numW K (List.replicate j 0) = 0:=by
 induction j with
 | zero => rfl
 | succ j ih => rw [List.replicate_succ',numW_snoc,ih]; simp
theorem next_word {K n x : Nat} (hK : 1 ≤ K) (hx : x < pw K n) (u : List Int) (a : Int) (j : Nat) (h : digs K n x = u ++ [a] ++ List.replicate j ((K : Int) - 1)) (ha : a < (K : Int) - 1) :
 digs K n (x + 1) = u ++ [a + 1] ++ List.replicate j 0:=by
 have hs:=digs_syms hK n x
 have hl:=congrArg List.length h
 have hn:=congrArg (numW K) h
 rw [digs_length] at hl
 rw [numW_digs hK _ _ hx,numW_append,List.length_replicate,numW_snoc] at hn
 rw [h] at hs
 have hu : Syms K u:=fun y hy => hs y (by simp [hy])
 have ha0:=hs a (by simp)
 have hw : Syms K (u ++ [a + 1] ++ List.replicate j 0):=by
  intro y hy
  rcases List.mem_append.1 hy with hy | hy
  ·exact syms_snoc (by omega) (by omega) hu y hy
  ·have:=List.eq_of_mem_replicate hy; omega
 have e:=digs_numW hK _ hw
 have hlen : (u ++ [a + 1] ++ List.replicate j 0).length = n:=by simp at hl ⊢; omega
 rw [hlen] at e
 rw [← e]
 congr 1
 rw [numW_append,List.length_replicate,numW_snoc,numW_rep_zero,show (a + 1).toNat = a.toNat + 1 by omega,← Nat.add_assoc,Nat.add_mul (numW K u * K + a.toNat)]
 have:=numW_rep_max hK j
 omega
theorem digs_last {K n x : Nat} (hK : 1 ≤ K) (hx : x < pw K n) (h : digs K n x = List.replicate n ((K : Int) - 1)) : x + 1 = pw K n:=by
 have hn:=congrArg (numW K) h
 rw [numW_digs hK _ _ hx] at hn
 rw [hn,numW_rep_max hK]
theorem digs_zero (K n : Nat) : digs K n 0 = List.replicate n 0:=by
 induction n with
 | zero => rfl
 | succ n ih => rw [digs,Nat.zero_div,ih,List.replicate_succ']; simp
end Go.Proofs.YtjiadfblphdchaaGreatDoor
namespace Go.Proofs.YtjiadfblphdchaaGreatDoor
open Go.RowKit
set_option maxRecDepth 100000
theorem set_here (u : List Int) (a y : Int) (r : List Int) : (u ++ [a] ++ r).set u.length y = u ++ [y] ++ r:=by
 rw [List.append_assoc,List.set_append_right _ _ (by omega)]; simp
end Go.Proofs.YtjiadfblphdchaaGreatDoor
namespace Go.Proofs.YtjiadfblphdchaaGreatDoor
open Go.RowKit
set_option maxRecDepth 100000
def sOverlap : ByteArray:=⟨#[111,118,101,114,108,97,112]⟩
/-- rule.Small's answer. -/
def smallP (k R : Int) (T : List Int) : PErr :=
 match checkP k R T with
 | some t => some t
 | none => if 256 < T.length then fresh sRule 0 4 else none
theorem smallP_ok {K R : Nat} {T : List Int} (h : RuleOk K R T) : smallP K R T = if 256 < T.length then fresh sRule 0 4 else none:=by
 unfold smallP; rw [h.check]
theorem smallP_none {k R : Int} {T : List Int} (h : smallP k R T = none) : checkP k R T = none ∧ T.length ≤ 256:=by
 unfold smallP at h
 cases hc : checkP k R T with
 | some t => rw [hc] at h; cases h
 | none =>
  rw [hc] at h
  refine ⟨rfl,?_⟩
  by_cases hl : 256 < T.length
  ·rw [if_pos hl] at h; simp [fresh] at h
  ·omega
theorem small_any (r : Nat → Addr) (k R : Int) (va : Option Addr) (vn vc : Nat) (T : List Int) (w : World) (hg : Glob r w) (h : IntsAt w (.slice va vn vc) T) :
 Calls Tryz.prog 10 #[.agg #[.int .i64 k,.int .i64 R,.slice va vn vc]] w (Ret1 (fun x w' => ErrIs r w' (smallP k R T) x) w):=by
 have b0:=belowAlloc w (.cells #[.int .i64 k,.int .i64 R,.slice va vn vc] 24)
 have q : Box3 (w.alloc (.cells #[.int .i64 k,.int .i64 R,.slice va vn vc] 24)) w.heap.size (.int .i64 k) (.int .i64 R) (.slice va vn vc):=by simp [Box3,go_sem]
 have lT:=h.len
 replace hg:=Lib.hid (hg.below b0)
 replace h:=Lib.hid (h.below b0)
 obtain ⟨e0,hsm,he0⟩ : ∃ e0,(smallP k R T = match e0 with | some t => some t | none => if 256 < T.length then fresh sRule 0 4 else none) ∧ checkP k R T = e0:=⟨_,rfl,rfl⟩
 replace he0:=Lib.hid he0
 go_enter Tryz.func10,Tryz.ntmps10
 go_wp2_with fail
 refine (check_any r k R _ T _ hg.out h.out).mono ?_
 rintro e w1 ⟨x,rfl,b1,he⟩
 rw [he0.out] at he
 cases e0 with
 | some t =>
  simp only [] at hsm
  replace hsm:=Lib.hid hsm
  obtain ⟨T1,a1,rfl⟩:=ErrIs.some_shape he
  replace he:=Lib.hid he
  go_wp2
  go_ret
  exact ⟨_,rfl,Below.step b0 b1,by rw [hsm.out]; exact he.out⟩
 | none =>
  obtain rfl:=he.none_eq
  simp only [] at hsm
  clear he
  obtain ⟨⟨z0,z1,z2⟩,-,-,-⟩:=q.below b1
  by_cases hl : 256 < T.length
  ·rw [if_pos hl] at hsm
   replace hsm:=Lib.hid hsm
   go_wp2_with fail
   refine (rule_wrong r _ _ _ (hg.out.below b1) (by decide) (by decide)).mono ?_
   rintro e w2 ⟨x,rfl,b2,he⟩
   go_wp2
   go_ret
   exact ⟨_,rfl,Below.step b0 (Below.step b1 b2),by rw [hsm.out]; exact he⟩
  ·rw [if_neg hl] at hsm
   replace hsm:=Lib.hid hsm
   go_wp2
   go_ret
   exact ⟨_,rfl,Below.step b0 b1,by rw [hsm.out]; rfl⟩
theorem over_small (r : Nat → Addr) (k R : Int) (va : Option Addr) (vn vc : Nat) (T : List Int) (w : World) (hg : Glob r w) (h : IntsAt w (.slice va vn vc) T) :
 Calls Tryz.prog 119 #[.agg #[.int .i64 k,.int .i64 R,.slice va vn vc]] w (Ret1 (fun x w' => ErrIs r w' (under sOverlap 0 (smallP k R T)) x) w):=by
 have b0:=belowAlloc w (.cells #[.int .i64 k,.int .i64 R,.slice va vn vc] 24)
 replace hg:=Lib.hid (hg.below b0)
 replace h:=Lib.hid (h.below b0)
 go_enter Tryz.func119,Tryz.ntmps119
 go_wp2_with fail
 refine (small_any r k R va vn vc T _ hg.out h.out).mono ?_
 rintro e w1 ⟨x,rfl,b1,he⟩
 go_wp2_with fail
 refine (under_any r _ 0 _ x _ he).mono ?_
 rintro e w2 ⟨y,rfl,b2,hy⟩
 go_wp2
 go_ret
 exact ⟨_,rfl,Below.step b0 (Below.step b1 b2),hy⟩
theorem over_nodes (K R : Nat) (va : Option Addr) (vn vc : Nat) (T : List Int) (w : World) (h : IntsAt w (.slice va vn vc) T) (h1 : 1 ≤ K) (hT : T.length ≤ 16384) :
 Calls Tryz.prog 120 #[.agg #[.int .i64 K,.int .i64 R,.slice va vn vc]] w fun e w' => e = .returned (.int .i64 ((T.length / K : Nat) : Int)) ∧ w' = w.alloc (.cells #[.int .i64 K,.int .i64 R,.slice va vn vc] 24):=by
 have hK0 : ((K : Int) == 0) = false:=by rw [beq_eq_false_iff_ne]; omega
 have hK1 : ¬ (K : Int) = 0:=by omega
 have hK2 : (0 : Int) < K:=by omega
 have hK3 : ¬ K = 0:=by omega
 have lT:=h.len
 have hq0 : 0 ≤ (T.length : Int) / (K : Int):=Int.ediv_nonneg (by omega) (by omega)
 have hqc : (T.length : Int) / (K : Int) = ((T.length / K : Nat) : Int):=by simp
 have hqw : IntKind.i64.wrap ((T.length : Int) / (K : Int)) = (T.length : Int) / (K : Int):=by
  have : T.length / K ≤ 16384:=Nat.le_trans (Nat.div_le_self _ _) hT
  exact wrapK (by omega) (by rw [hqc]; omega)
 rw [← hqc]
 replace hqc:=Lib.hid hqc
 go_enter Tryz.func120,Tryz.ntmps120
 go_wp2
 go_ret
 exact ⟨rfl,rfl⟩
end Go.Proofs.YtjiadfblphdchaaGreatDoor
namespace Go.Proofs.YtjiadfblphdchaaGreatDoor
open Go.RowKit
set_option maxRecDepth 100000
theorem smallP_small {K R : Nat} {T : List Int} (h : RuleOk K R T) (hl : T.length ≤ 256) : smallP K R T = none:=by rw [smallP_ok h,if_neg (by omega)]
theorem over_Nodes (r : Nat → Addr) (K R : Nat) (va : Option Addr) (vn vc : Nat) (T : List Int) (w : World) (hg : Glob r w) (h : IntsAt w (.slice va vn vc) T) (hok : RuleOk K R T) (hl : T.length ≤ 256) :
 Calls Tryz.prog 80 #[.agg #[.int .i64 K,.int .i64 R,.slice va vn vc]] w (Ret2 (fun x y _ => x = .int .i64 ((T.length / K : Nat) : Int) ∧ y = .nilIface) w):=by
 have b0:=belowAlloc w (.cells #[.int .i64 K,.int .i64 R,.slice va vn vc] 24)
 have q : Box3 (w.alloc (.cells #[.int .i64 K,.int .i64 R,.slice va vn vc] 24)) w.heap.size (.int .i64 K) (.int .i64 R) (.slice va vn vc):=by simp [Box3,go_sem]
 have hs:=smallP_small hok hl
 have hk1:=hok.k1
 generalize hN : T.length / K = N
 replace hN:=Lib.hid hN
 replace hs:=Lib.hid hs
 replace hg:=Lib.hid (hg.below b0)
 replace h:=Lib.hid (h.below b0)
 go_enter Tryz.func80,Tryz.ntmps80
 go_wp2_with fail
 refine (over_small r K R va vn vc T _ hg.out h.out).mono ?_
 rintro e w1 ⟨x,rfl,b1,he⟩
 rw [hs.out] at he
 obtain rfl:=ErrIs.none_eq he
 obtain ⟨⟨z0,z1,z2⟩,-,-,-⟩:=q.below b1
 go_wp2_with fail
 refine (over_nodes K R va vn vc T _ (h.out.below b1) hk1 (by omega)).mono ?_
 rintro e w2 ⟨rfl,rfl⟩
 rw [hN.out]
 go_wp2
 go_ret2
 exact ⟨_,_,rfl,Below.step b0 (Below.step b1 (belowAlloc _ _)),rfl,rfl⟩
set_option maxHeartbeats 1000000 in
theorem over_Edge (r : Nat → Addr) (K R : Nat) (va : Option Addr) (vn vc : Nat) (T : List Int) (u s : Nat) (w : World) (hg : Glob r w) (h : IntsAt w (.slice va vn vc) T) (hok : RuleOk K R T) (hl : T.length ≤ 256) (hu : u < T.length / K) (hs : s < K) :
 Calls Tryz.prog 113 #[.agg #[.int .i64 K,.int .i64 R,.slice va vn vc],.int .i64 u,.int .i64 s] w (Ret3 (fun x y z _ => x = .int .i64 (toN K (T.length / K) u s) ∧ y = .int .i64 (labN K T u s) ∧ z = .nilIface) w):=by
 have b0:=belowAlloc w (.cells #[.int .i64 K,.int .i64 R,.slice va vn vc] 24)
 have q : Box3 (w.alloc (.cells #[.int .i64 K,.int .i64 R,.slice va vn vc] 24)) w.heap.size (.int .i64 K) (.int .i64 R) (.slice va vn vc):=by simp [Box3,go_sem]
 have hsm:=smallP_small hok hl
 have hk1:=hok.k1
 have hk4:=hok.k4
 have hul : u * K + s < T.length:=by
  have:=Nat.div_mul_le_self T.length K
  have:=mul_add_lt (q:=u) (m:=T.length / K) hs hu
  omega
 have hN0 : T.length / K ≤ 256:=Nat.le_trans (Nat.div_le_self _ _) hl
 have huK : u * K ≤ 256:=by omega
 obtain ⟨p,hp⟩ : ∃ n,u * K = n:=⟨_,rfl⟩
 have hM : (u : Int) * (K : Int) = (p : Int):=by rw [← hp]; simp
 obtain ⟨at_,hat⟩ : ∃ n,u * K + s = n:=⟨_,rfl⟩
 have hA : (p : Int) + (s : Int) = (at_ : Int):=by rw [← hat,hp]; simp
 have i1:=fun w' => h.idx at_ (by omega) w'
 have c1:=h.cellD at_ (by omega)
 generalize valAt (.slice va vn vc) at_ = ta at *
 have hb1:=h.below b0
 have e1 : labN K T u s = T.getD at_ 0:=by unfold labN; rw [hat]
 have e2 : toN K (T.length / K) u s = at_ % (T.length / K):=by unfold toN; rw [hat]
 rw [e1,e2]
 generalize T.getD at_ 0 = y at *
 obtain ⟨N,hN⟩ : ∃ N,T.length / K = N:=⟨_,rfl⟩
 rw [hN] at hu hN0 ⊢
 have hN1 : ¬ (N : Int) = 0:=by omega
 have hN2 : ((N : Int) == 0) = false:=by rw [beq_eq_false_iff_ne]; omega
 have hN3 : (0 : Int) < N:=by omega
 have hN4 : ¬ N = 0:=by omega
 have hrem : (at_ : Int).tmod (N : Int) = ((at_ % N : Nat) : Int):=by rw [Int.tmod_eq_emod_of_nonneg (by omega)]; simp
 have hat1 : at_ ≤ 256:=by omega
 rw [hat] at hul
 rw [hp] at huK hat
 have hps : (p : Int) + (s : Int) ≤ 256:=by omega
 clear hat hp
 have c1':=(b0.cell (World.block_lt_of_cell? _ _ c1)).trans c1
 replace hN:=Lib.hid hN
 replace hsm:=Lib.hid hsm
 replace hg:=Lib.hid (hg.below b0)
 replace h:=Lib.hid hb1
 clear c1 e1 e2 hb1
 go_enter Tryz.func113,Tryz.ntmps113
 go_wp2_with fail
 refine (over_small r K R va vn vc T _ hg.out h.out).mono ?_
 rintro e w1 ⟨x,rfl,b1,he⟩
 rw [hsm.out] at he
 obtain rfl:=ErrIs.none_eq he
 have q1:=q.below b1
 obtain ⟨⟨z0,z1,z2⟩,-,-,-⟩:=q1
 have q1:=Lib.hid (q.below b1)
 go_wp2_with fail
 refine (over_nodes K R va vn vc T _ (h.out.below b1) hk1 (by omega)).mono ?_
 rintro e w2 ⟨rfl,rfl⟩
 rw [hN.out]
 have b2:=Below.step b1 (belowAlloc w1 (.cells #[.int .i64 K,.int .i64 R,.slice va vn vc] 24))
 obtain ⟨W2,hW2⟩ : ∃ W2 : World,W2 = w1.alloc (.cells #[.int .i64 K,.int .i64 R,.slice va vn vc] 24):=⟨_,rfl⟩
 rw [← hW2] at b2 ⊢
 have q2:=q.below b2
 have hT2:=h.out.below b2
 have cT2:=(b2.cell (World.block_lt_of_cell? _ _ c1')).trans c1'
 clear hW2 z0 z1 z2 c1'
 obtain ⟨⟨z0,z1,z2⟩,-,-,-⟩:=q2
 replace hT2:=Lib.hid hT2
 go_upto_region 9 with fail
 refine wp_region_plan (fun w' => w'.cell? ⟨w.heap.size,0,none⟩ = some (.int .i64 K) ∧ w'.cell? ⟨w.heap.size,1,none⟩ = some (.int .i64 R) ∧ w'.cell? ⟨w.heap.size,2,none⟩ = some (.slice va vn vc) ∧ w'.cell? ta = some (.int .i64 y)) 11 [(0,true),(1,true),(4,true),(5,true),(6,true),(7,true),(8,true),(2,false),(3,true),(9,true),(10,true)] (by kernel_rfl) (by kernel_rfl) ?_
 have hS : W2.drew.cell? ⟨w.heap.size,0,none⟩ = some (.int .i64 K) ∧ W2.drew.cell? ⟨w.heap.size,1,none⟩ = some (.int .i64 R) ∧ W2.drew.cell? ⟨w.heap.size,2,none⟩ = some (.slice va vn vc) ∧ W2.drew.cell? ta = some (.int .i64 y):=⟨z0,z1,z2,cT2⟩
 refine pqY 42 hS ?_
 refine pqY 43 hS ?_
 refine pqY 46 hS ?_
 refine pqY 47 hS ?_
 refine pqY 48 hS ?_
 refine pqY 49 hS ?_
 refine pqY 50 hS ?_
 refine headC rfl (fun KK hK => ?_)
 go_simp
 refine (over_nodes K R va vn vc T _ hT2.out.drew hk1 (by omega)).mono ?_
 rintro e W3 ⟨rfl,rfl⟩
 rw [hN.out]
 have b3:=belowAlloc W2.drew (.cells #[.int .i64 K,.int .i64 R,.slice va vn vc] 24)
 have hS3:=(⟨cell_keep b3 hS.1,cell_keep b3 hS.2.1,cell_keep b3 hS.2.2.1,(b3.cell (World.block_lt_of_cell? _ _ hS.2.2.2)).trans hS.2.2.2⟩ : (W2.drew.alloc (.cells #[.int .i64 K,.int .i64 R,.slice va vn vc] 24)).cell? ⟨w.heap.size,0,none⟩ = some (.int .i64 K) ∧ (W2.drew.alloc (.cells #[.int .i64 K,.int .i64 R,.slice va vn vc] 24)).cell? ⟨w.heap.size,1,none⟩ = some (.int .i64 R) ∧ (W2.drew.alloc (.cells #[.int .i64 K,.int .i64 R,.slice va vn vc] 24)).cell? ⟨w.heap.size,2,none⟩ = some (.slice va vn vc) ∧ (W2.drew.alloc (.cells #[.int .i64 K,.int .i64 R,.slice va vn vc] 24)).cell? ta = some (.int .i64 y))
 refine hK _ _ hS3 ?_
 clear hK KK
 refine pqY 45 hS3 ?_
 refine pqY 6 hS3 ?_
 refine pqY 7 hS3 ?_
 refine head0 ?_
 simp only [List.drop_succ_cons,List.drop_zero]
 clear hS hS3
 go_wp2
 refine NoPanic.normal ?_
 go_wp2
 go_ret3
 exact ⟨_,_,_,rfl,Below.step b0 (Below.step b2 ((Below.refl _ _).drew.alloc (Nat.le_refl _) _)),rfl,rfl,rfl⟩
end Go.Proofs.YtjiadfblphdchaaGreatDoor
namespace Go.Proofs.YtjiadfblphdchaaGreatDoor
open Go.RowKit
set_option maxRecDepth 100000
set_option maxHeartbeats 1000000 in
theorem fwiden_ok (r : Nat → Addr) (K R d : Nat) (va : Option Addr) (vn vc : Nat) (T : List Int) (w : World) (hg : Glob r w) (h : IntsAt w (.slice va vn vc) T) (hr : RuleOk K R T) (hRd : R + d ≤ 3) (Ri : Int) (hRi : Ri = ((R + d : Nat) : Int)) :
 Calls Tryz.prog 112 #[.agg #[.int .i64 K,.int .i64 R,.slice va vn vc],.int .i64 Ri] w (Ret2 (fun x y w' => y = .nilIface ∧ ∃ a n c,x = .agg #[.int .i64 K,.int .i64 ((R + d : Nat) : Int),.slice a n c] ∧ OwnI w.heap.size w' (.slice a n c) (wideT K R d T)) w):=by
 have b0:=Below.step (belowAlloc w (.cells #[.int .i64 K,.int .i64 R,.slice va vn vc] 24)) (belowAlloc _ (.cells #[.int .i64 0,.int .i64 0,.slice none 0 0] 24))
 have q2 : Box3 ((w.alloc (.cells #[.int .i64 K,.int .i64 R,.slice va vn vc] 24)).alloc (.cells #[.int .i64 0,.int .i64 0,.slice none 0 0] 24)) (w.heap.size + 1) (.int .i64 0) (.int .i64 0) (.slice none 0 0):=by simp [Box3,go_sem]
 have q1 : Box3 ((w.alloc (.cells #[.int .i64 K,.int .i64 R,.slice va vn vc] 24)).alloc (.cells #[.int .i64 0,.int .i64 0,.slice none 0 0] 24)) w.heap.size (.int .i64 K) (.int .i64 R) (.slice va vn vc):=by simp [Box3,go_sem]
 have hk1:=hr.k1
 have hk4:=hr.k4
 have hR3:=hr.r3
 have hck:=Lib.hid hr.check
 have h1 : R ≤ Ri:=by omega
 have h2 : Ri ≤ 3:=by omega
 have h1d : decide (Ri < (R : Int)) = false:=by simp; omega
 have h2d : decide ((3 : Int) < Ri) = false:=by simp; omega
 replace hRi:=Lib.hid hRi
 replace hg:=Lib.hid (hg.below b0)
 replace h:=Lib.hid (h.below b0)
 replace hr:=Lib.hid hr
 replace q1:=Lib.hid q1
 replace q2:=Lib.hid q2
 go_enter Tryz.func112,Tryz.ntmps112
 go_wp2_with fail
 refine (forms_check r _ K R va vn vc T _ hg.out h.out).mono ?_
 rintro e w1 ⟨x,rfl,hb,he⟩
 rw [hck.out] at he
 obtain rfl:=ErrIs.none_eq he
 have q11:=q1.out.below hb
 obtain ⟨⟨z0,z1,z2⟩,-,-,-⟩:=q11
 have s1:=hb.size
 simp only [World.size_alloc] at s1
 replace s1:=Lib.hid s1
 go_wp2_with fail
 refine (widened_any K R d va vn vc T w1 (h.out.below hb) hr.out hRd Ri hRi.out).mono ?_
 rintro e w2 ⟨x,rfl,b2,a,n,c,rfl,ho⟩
 obtain ⟨⟨y0,y1,y2⟩,f0,f1,f2⟩:=q2.out.below (Below.step hb b2)
 replace ho:=Lib.hid ho
 clear z0 z1 z2
 go_wp2
 refine bodyPost_ret (v:=.tuple #[.agg #[.int .i64 K,.int .i64 ((R + d : Nat) : Int),.slice a n c],.nilIface]) (by simp [results,Tryz.results112,go_sem,y0,y1,y2]) rfl ⟨_,_,rfl,below_set3 (Below.step b0 (Below.step hb b2)) (Nat.le_succ _) _ _ _,rfl,a,n,c,rfl,?_⟩
 have:=s1.out
 exact (((ho.out.setBelowBase (a:=⟨w.heap.size + 1,0,none⟩) (by simp; omega) _).setBelowBase (a:=⟨w.heap.size + 1,1,none⟩) (by simp; omega) _).setBelowBase (a:=⟨w.heap.size + 1,2,none⟩) (by simp; omega) _).mono (by omega)
/-- The working rule's radius and table. -/
def wkR (R : Nat) : Nat:=if R = 0 then 1 else R
def wkT (K R : Nat) (T : List Int) : List Int:=if R = 0 then wideT K 0 1 T else T
theorem wk_ok {K R : Nat} {T : List Int} (h : RuleOk K R T) : RuleOk K (wkR R) (wkT K R T):=by
 unfold wkR wkT
 by_cases e : R = 0
 ·subst e; rw [if_pos rfl,if_pos rfl]; exact wideT_ok (d:=1) h (by decide)
 ·rw [if_neg e,if_neg e]; exact h
theorem wk_pos (R : Nat) : 1 ≤ wkR R:=by unfold wkR; split <;> omega
theorem wk_small {K R : Nat} {T : List Int} (h : RuleOk K R T) (hl : T.length ≤ 256) : (wkT K R T).length ≤ 256:=by
 unfold wkT
 by_cases e : R = 0
 ·subst e; rw [if_pos rfl,wideT_length]
  have h4:=h.k4
  have : pw K 3 ≤ pw 4 3:=Nat.pow_le_pow_left h4 3
  have e4 : pw 4 3 = 64:=by decide
  have : pw K (2 * (0 + 1) + 1) = pw K 3:=rfl
  omega
 ·rw [if_neg e]; exact hl
/-- A small rule's working rule has at most 81 nodes. -/
theorem nodes_le {K R : Nat} {T : List Int} (h : RuleOk K R T) (hR : 1 ≤ R) (hl : T.length ≤ 256) : pw K (2 * R) ≤ 81:=by
 have h1:=h.k1
 have h4:=h.k4
 have h3:=h.r3
 rw [h.len] at hl
 have hK : K = 1 ∨ K = 2 ∨ K = 3 ∨ K = 4:=by omega
 have hR' : R = 1 ∨ R = 2 ∨ R = 3:=by omega
 rcases hK with rfl | rfl | rfl | rfl <;> rcases hR' with rfl | rfl | rfl <;> revert hl <;> decide
theorem working_bad (r : Nat → Addr) (k R : Int) (va : Option Addr) (vn vc : Nat) (T : List Int) (t : Int × List (ByteArray × Int)) (w : World) (hg : Glob r w) (h : IntsAt w (.slice va vn vc) T) (hc : smallP k R T = some t) :
 Calls Tryz.prog 75 #[.agg #[.int .i64 k,.int .i64 R,.slice va vn vc]] w (Ret2 (fun x y w' => x = zR ∧ ErrIs r w' (under sPairs 0 (some t)) y) w):=by
 have b0:=Below.step (belowAlloc w (.cells #[.int .i64 k,.int .i64 R,.slice va vn vc] 24)) (belowAlloc _ (.cells #[.int .i64 0,.int .i64 0,.slice none 0 0] 24))
 have q2 : Box3 ((w.alloc (.cells #[.int .i64 k,.int .i64 R,.slice va vn vc] 24)).alloc (.cells #[.int .i64 0,.int .i64 0,.slice none 0 0] 24)) (w.heap.size + 1) (.int .i64 0) (.int .i64 0) (.slice none 0 0):=by simp [Box3,go_sem]
 replace hg:=Lib.hid (hg.below b0)
 replace h:=Lib.hid (h.below b0)
 replace hc:=Lib.hid hc
 replace q2:=Lib.hid q2
 go_enter Tryz.func75,Tryz.ntmps75
 go_wp2_with fail
 refine (small_any r k R va vn vc T _ hg.out h.out).mono ?_
 rintro e w1 ⟨x,rfl,b1,he⟩
 rw [hc.out] at he
 have he':=he
 obtain ⟨T1,a1,rfl⟩:=ErrIs.some_shape he
 replace he:=Lib.hid he
 replace he':=Lib.hid he'
 go_wp2_with fail
 refine (under_any r _ 0 _ _ w1 he'.out).mono ?_
 rintro e w2 ⟨y,rfl,b2,hy⟩
 obtain ⟨T2,a2,rfl⟩ : ∃ T a,y = .iface T (.pointer (some a)):=by
  unfold under at hy
  exact ErrIs.some_shape hy
 obtain ⟨⟨y0,y1,y2⟩,f0,f1,f2⟩:=q2.out.below (Below.step b1 b2)
 replace hy:=Lib.hid hy
 go_wp2
 rw [setCell_self3 y0 y1 y2]
 exact bodyPost_ret (v:=.tuple #[zR,.iface T2 (.pointer (some a2))]) (by simp [results,Tryz.results75,go_sem,y0,y1,y2]) rfl ⟨_,_,rfl,Below.step b0 (Below.step b1 b2),rfl,hy.out⟩
set_option maxHeartbeats 1000000 in
theorem working_ok (r : Nat → Addr) (K R : Nat) (va : Option Addr) (vn vc : Nat) (T : List Int) (w : World) (hg : Glob r w) (h : IntsAt w (.slice va vn vc) T) (hr : RuleOk K R T) (hl : T.length ≤ 256) :
 Calls Tryz.prog 75 #[.agg #[.int .i64 K,.int .i64 R,.slice va vn vc]] w (Ret2 (fun x y w' => y = .nilIface ∧ ∃ a n c,x = .agg #[.int .i64 K,.int .i64 (wkR R),.slice a n c] ∧ IntsAt w' (.slice a n c) (wkT K R T)) w):=by
 have b0:=Below.step (belowAlloc w (.cells #[.int .i64 K,.int .i64 R,.slice va vn vc] 24)) (belowAlloc _ (.cells #[.int .i64 0,.int .i64 0,.slice none 0 0] 24))
 have q2 : Box3 ((w.alloc (.cells #[.int .i64 K,.int .i64 R,.slice va vn vc] 24)).alloc (.cells #[.int .i64 0,.int .i64 0,.slice none 0 0] 24)) (w.heap.size + 1) (.int .i64 0) (.int .i64 0) (.slice none 0 0):=by simp [Box3,go_sem]
 have q1 : Box3 ((w.alloc (.cells #[.int .i64 K,.int .i64 R,.slice va vn vc] 24)).alloc (.cells #[.int .i64 0,.int .i64 0,.slice none 0 0] 24)) w.heap.size (.int .i64 K) (.int .i64 R) (.slice va vn vc):=by simp [Box3,go_sem]
 have hs:=Lib.hid (smallP_small hr hl)
 have h0:=Lib.hid h
 have hs0 : w.heap.size + 1 < ((w.alloc (.cells #[.int .i64 K,.int .i64 R,.slice va vn vc] 24)).alloc (.cells #[.int .i64 0,.int .i64 0,.slice none 0 0] 24)).heap.size:=by simp
 replace hg:=Lib.hid (hg.below b0)
 replace h:=Lib.hid (h.below b0)
 replace hr:=Lib.hid hr
 replace q1:=Lib.hid q1
 replace q2:=Lib.hid q2
 replace hs0:=Lib.hid hs0
 by_cases hR : R = 0
 ·have e1 : wkR R = R + 1:=by unfold wkR; rw [if_pos hR,hR]
  have e2 : wkT K R T = wideT K R 1 T:=by unfold wkT; rw [if_pos hR,hR]
  have hRq : ((R : Int) == 0) = true:=by simp [hR]
  rw [e1,e2]
  replace hR:=Lib.hid hR
  clear e1 e2
  go_enter Tryz.func75,Tryz.ntmps75
  go_wp2_with fail
  refine (small_any r K R va vn vc T _ hg.out h.out).mono ?_
  rintro e w1 ⟨x,rfl,b1,he⟩
  rw [hs.out] at he
  obtain rfl:=ErrIs.none_eq he
  have q11:=q1.out.below b1
  obtain ⟨⟨z0,z1,z2⟩,-,-,-⟩:=q11
  go_wp2_with fail
  refine (fwiden_ok r K R 1 va vn vc T w1 (hg.out.below b1) (h.out.below b1) hr.out (by have:=hR.out; omega) 1 (by have:=hR.out; simp [this])).mono ?_
  rintro e w2 ⟨x,y,rfl,b2,rfl,a,n,c,rfl,ho⟩
  obtain ⟨⟨y0,y1,y2⟩,f0,f1,f2⟩:=q2.out.below (Below.step b1 b2)
  replace ho:=Lib.hid ho
  clear z0 z1 z2
  go_wp2
  refine bodyPost_ret (v:=.tuple #[.agg #[.int .i64 K,.int .i64 ((R + 1 : Nat) : Int),.slice a n c],.nilIface]) (by simp [results,Tryz.results75,go_sem,y0,y1,y2]) rfl ⟨_,_,rfl,below_set3 (Below.step b0 (Below.step b1 b2)) (Nat.le_succ _) _ _ _,rfl,a,n,c,rfl,?_⟩
  have s1:=hs0.out
  have s2:=b1.size
  exact (((ho.out.setBelowBase (a:=⟨w.heap.size + 1,0,none⟩) (Nat.lt_of_lt_of_le s1 s2) _).setBelowBase (a:=⟨w.heap.size + 1,1,none⟩) (Nat.lt_of_lt_of_le s1 s2) _).setBelowBase (a:=⟨w.heap.size + 1,2,none⟩) (Nat.lt_of_lt_of_le s1 s2) _).at
 ·have e1 : wkR R = R:=by unfold wkR; rw [if_neg hR]
  have e2 : wkT K R T = T:=by unfold wkT; rw [if_neg hR]
  have hRq : ((R : Int) == 0) = false:=by rw [beq_eq_false_iff_ne]; omega
  have hR' : ¬ (R : Int) = 0:=by omega
  rw [e1,e2]
  clear e1 e2
  go_enter Tryz.func75,Tryz.ntmps75
  go_wp2_with fail
  refine (small_any r K R va vn vc T _ hg.out h.out).mono ?_
  rintro e w1 ⟨x,rfl,b1,he⟩
  rw [hs.out] at he
  obtain rfl:=ErrIs.none_eq he
  have q11:=q1.out.below b1
  obtain ⟨⟨z0,z1,z2⟩,-,-,-⟩:=q11
  obtain ⟨⟨y0,y1,y2⟩,f0,f1,f2⟩:=q2.out.below b1
  have b01:=Below.step b0 b1
  have hTW:=h0.out.below (below_set3 b01 (Nat.le_succ _) (.int .i64 K) (.int .i64 R) (.slice va vn vc))
  replace hTW:=Lib.hid hTW
  go_wp2
  refine bodyPost_ret (v:=.tuple #[.agg #[.int .i64 K,.int .i64 R,.slice va vn vc],.nilIface]) (by simp [results,Tryz.results75,go_sem,y0,y1,y2]) rfl ⟨_,_,rfl,below_set3 b01 (Nat.le_succ _) _ _ _,rfl,va,vn,vc,rfl,hTW.out⟩
end Go.Proofs.YtjiadfblphdchaaGreatDoor
namespace Go.Proofs.YtjiadfblphdchaaGreatDoor
open Go.RowKit
set_option maxRecDepth 100000
/-- Quotient and rest of small numbers, as the machine reckons them. -/
theorem dm (p N : Nat) (hp : p ≤ 100000000) : (p : Int).tdiv (N : Int) = ((p / N : Nat) : Int) ∧ (p : Int).tmod (N : Int) = ((p % N : Nat) : Int) ∧ (p : Int) / (N : Int) = ((p / N : Nat) : Int) ∧ (p : Int) % (N : Int) = ((p % N : Nat) : Int) ∧
 IntKind.i64.wrap ((p / N : Nat) : Int) = ((p / N : Nat) : Int) ∧ IntKind.i64.wrap ((p % N : Nat) : Int) = ((p % N : Nat) : Int):=by
 have h1 : p / N ≤ p:=Nat.div_le_self _ _
 have h2 : p % N ≤ p:=Nat.mod_le _ _
 refine ⟨by rw [Int.tdiv_eq_ediv_of_nonneg (by omega)]; simp,by rw [Int.tmod_eq_emod_of_nonneg (by omega)]; simp,by simp,by simp,?_,?_⟩
 ·generalize p / N = a at *; exact wrapK (by omega) (by omega)
 ·generalize p % N = a at *; exact wrapK (by omega) (by omega)
end Go.Proofs.YtjiadfblphdchaaGreatDoor
namespace Go.Proofs.YtjiadfblphdchaaGreatDoor
open Go.RowKit
set_option maxRecDepth 100000
/-- T: slices of E, a struct of two ints. -/
def TwoInts (T E : TypeId) : Prop:=Tryz.prog.underlying T = some (.slice E) ∧ ∃ i,Tryz.prog.info? E = some i ∧ i.zero = some (.agg #[.int .i64 0,.int .i64 0]) ∧ i.size = 2 ∧ i.bytes = 16
theorem twoInts_mk {T E : TypeId} (h1 : Tryz.prog.underlying T = some (.slice E)) (h2 : (Tryz.prog.info? E).map (fun i => (i.zero,i.size,i.bytes)) = some (some (.agg #[.int .i64 0,.int .i64 0]),2,16)) : TwoInts T E:=by
 refine ⟨h1,?_⟩
 cases h : Tryz.prog.info? E with
 | none => rw [h] at h2; cases h2
 | some i => rw [h] at h2; simp at h2; exact ⟨i,rfl,h2.1,h2.2.1,h2.2.2⟩
/-- append of one struct of two ints. -/
theorem run_app2 {T E : TypeId} (tc : TwoInts T E) (w : World) (B : Nat) (ty : TypeId) (v : Value) (m : Nat) (xs : List Value) (hown : w.ownsRow B E 2 v m xs)
 (b : Nat) (y0 y1 : Int) (hys : ∀ (j : Nat) (u : Value),([Value.int .i64 y0,.int .i64 y1] : List Value)[j]? = some u → w.cell? ((⟨b,0,none⟩ : Addr).add j) = some u) (hlen : m < 1000000) (hB : B ≤ w.heap.size) :
 ∃ g n' c' w',(Builtin.append_ #[T,T] ty #[v,.slice (some ⟨b,0,none⟩) 1 1]).run Tryz.prog w = .ok (.slice (some ⟨g,0,none⟩) n' c') w' ∧ n' = m + 1 ∧ w'.ownsRow B E 2 (.slice (some ⟨g,0,none⟩) (m + 1) c') (m + 1) (xs ++ [.int .i64 y0,.int .i64 y1]) ∧
  ((v.ownBlock = some g ∧ w.grownBy w' v.ownBlock) ∨ (g = w.heap.size ∧ w.grownBy w' none)):=by
 obtain ⟨ht,i,hi,hz0,hz1,hz2⟩:=tc
 have hzc : (Value.agg #[.int .i64 0,.int .i64 0]).cells = #[.int .i64 0,.int .i64 0]:=by rfl
 have hxl:=hown.1
 have big : ∀ (old : Nat),old < m + 1 →
  (w.drew.alloc (.cells (xs.toArray ++ [Value.int .i64 y0,.int .i64 y1].toArray ++ Builtin.zeroCells (Value.agg #[.int .i64 0,.int .i64 0]).cells (grownCap w (m + 1) old E - (m + 1))) E)).ownsRow B E 2 (.slice (some ⟨w.heap.size,0,none⟩) (m + 1) (grownCap w (m + 1) old E)) (m + 1) (xs ++ [.int .i64 y0,.int .i64 y1]):=by
  intro old ho
  have hge:=grownCap_ge w (m + 1) old E
  have hcm : grownCap w (m + 1) old E ≤ maxLen:=grownCap_le_maxLen w _ old E (by unfold maxLen; omega)
  refine ⟨by simp [hxl]; omega,.inr ⟨w.heap.size,_,_,rfl,hB,heap_alloc_new w.drew _,hge,hcm,?_,?_⟩⟩
  ·simp only [Array.size_append,List.size_toArray,size_zeroCells,hzc,hxl]
   simp
   omega
  ·simp only [Array.toList_append]
   exact List.take_left' (by simp [hxl]; omega)
 have grw : ∀ (oo : Obj),w.grownBy (w.drew.alloc oo) none:=fun oo => ⟨rfl,rfl,rfl,by simp,fun k hk _ => Below.heap_alloc w.drew oo k hk⟩
 rcases hown.2 with ⟨rfl,hn⟩ | ⟨g,cap,cur,rfl,hbg,hg,hnc,hcm,hcs,htake⟩
 ·subst hn
  obtain rfl:=List.length_eq_zero_iff.1 (show xs.length = 0 by omega)
  have hr:=run_append_nil (P:=Tryz.prog) w T ty E i _ ht hi hz0 ⟨b,0,none⟩ 1 1 [.int .i64 y0,.int .i64 y1] (by rw [hz1]; rfl) hys (by omega) (by omega) (by rw [hz2]; decide)
  have hbg:=big 0 (by omega)
  simp only [List.nil_append,Array.empty_append,Nat.zero_add] at hbg hr
  exact ⟨_,_,_,_,hr,rfl,by simpa using hbg,.inr ⟨rfl,grw _⟩⟩
 ·by_cases hroom : m + 1 ≤ cap
  ·have hr:=run_append_room (P:=Tryz.prog) w T ty E i ht hi g m cap cur hg ⟨b,0,none⟩ 1 1 [.int .i64 y0,.int .i64 y1] (by rw [hz1]; rfl) hys (by simp [Value.oneCell']) hroom (by rw [hz1,hcs]; simp; omega)
   refine ⟨_,_,_,_,hr,rfl,⟨by simp [hxl]; omega,.inr ⟨g,cap,_,rfl,hbg,setRow_heap w g cur _ E _ hg,hroom,hcm,?_,?_⟩⟩,.inl ⟨rfl,⟨rfl,rfl,rfl,by simp,fun k _ hk => setRow_other w g k _ (fun e => hk (by simp [Value.ownBlock,e]))⟩⟩⟩
   ·simp only [List.size_toArray,List.length_append,List.length_take,List.length_drop,Array.length_toList,hz1,hcs]
    simp
    omega
   ·rw [hz1,htake]
    exact List.take_left' (by simp [hxl]; omega)
  ·have holds : ∀ j u,xs[j]? = some u → w.cell? ((⟨g,0,none⟩ : Addr).add j) = some u:=World.ownsRow.cells hown (g:=g) rfl
   have hr:=run_append_grow (P:=Tryz.prog) w T ty E i _ ht hi hz0 ⟨g,0,none⟩ m cap xs (by rw [hz1]; exact hxl) holds ⟨b,0,none⟩ 1 1 [.int .i64 y0,.int .i64 y1] (by rw [hz1]; rfl) hys (by omega) (by omega) (by
    rw [hz2]
    exact growslice_fits (by omega) (by
     calc (m + 1) * 16 ≤ 1000000 * 16:=Nat.mul_le_mul_right _ hlen
      _ ≤ _:=by decide))
   exact ⟨_,_,_,_,hr,rfl,big cap (by omega),.inr ⟨rfl,grw _⟩⟩
/-- append(s, struct) in the text's order. -/
theorem wpl_app2 {T E : TypeId} (tc : TwoInts T E) {w : World} {ops : Array Oper} {rest : List Oper} {o : Oper} {a : Act} {Q : Exit → Act → World → Prop} (hgd : o.guard = none) (s x : Operand)
 (ho : o.op = .call { callee:=.builtin .append,args:=#[s,x],argTypes:=#[T,T] })
 (B : Nat) (v : Value) (m : Nat) (xs : List Value) (y0 y1 : Int) (b : Nat) (hown : w.ownsRow B E 2 v m xs) (hs : a.eval s = v) (hx : a.eval x = .slice (some ⟨b,0,none⟩) 1 1) (hb : b = w.heap.size)
 (hlen : m < 1000000) (hB : B ≤ w.heap.size)
 (h : ∀ g c w',w'.ownsRow B E 2 (.slice (some ⟨g,0,none⟩) (m + 1) c) (m + 1) (xs ++ [.int .i64 y0,.int .i64 y1]) → ((v.ownBlock = some g ∧ w.grownBy w' v.ownBlock) ∨ (w.heap.size ≤ g ∧ w.grownBy w' none)) → wpList Tryz.prog ops Q rest (a.put o.dst (.slice (some ⟨g,0,none⟩) (m + 1) c)) w') :
 wpList Tryz.prog ops Q (o :: rest) a (w.alloc (.cells #[.int .i64 y0,.int .i64 y1] E)):=by
 subst hb
 refine wpList_plain hgd fun K hK => ?_
 have hcells : ∀ (j : Nat) (u : Value),([Value.int .i64 y0,.int .i64 y1] : List Value)[j]? = some u → (w.alloc (.cells #[.int .i64 y0,.int .i64 y1] E)).cell? ((⟨w.heap.size,0,none⟩ : Addr).add j) = some u:=by
  intro j u hj
  have hn:=heap_alloc_new w (.cells #[.int .i64 y0,.int .i64 y1] E)
  match j,hj with
  | 0,hj => simp at hj; subst hj; simp only [World.cell?,Addr.add,if_true]; rw [hn]; rfl
  | 1,hj => simp at hj; subst hj; simp only [World.cell?,Addr.add,show ¬ (1 = 0) by decide,if_false]; rw [hn]; rfl
  | j + 2,hj => simp at hj
 obtain ⟨g,n',c',w',hr,rfl,h2,h3⟩:=run_app2 tc (w.alloc (.cells #[.int .i64 y0,.int .i64 y1] E)) B o.type v m xs (World.ownsRow.alloc hown _) w.heap.size y0 y1 hcells hlen (by simp; omega)
 unfold Oper.wp execOp
 simp only [ho,resolve,invoke,builtin,Sem.run_bind,Sem.run_pure,Result.andThen_ok,List.map_toArray,List.map_cons,List.map_nil,hs,hx]
 rw [hr]
 have hal : ∀ row,w.grownBy (w.alloc (.cells #[.int .i64 y0,.int .i64 y1] E)) row:=fun row => World.grownBy_alloc w _ row
 rcases h3 with ⟨hv,hg⟩ | ⟨hk,hg⟩
 ·exact hK _ _ (h g c' w' h2 (.inl ⟨hv,(hal v.ownBlock).trans hg⟩))
 ·exact hK _ _ (h g c' w' h2 (.inr ⟨by rw [hk]; simp,(hal none).trans hg⟩))
/-- The cells of such a row. -/
def flat2 (l : List (Int × Int)) : List Value:=l.flatMap fun p => [.int .i64 p.1,.int .i64 p.2]
theorem flat2_snoc (l : List (Int × Int)) (a b : Int) : flat2 (l ++ [(a,b)]) = flat2 l ++ [.int .i64 a,.int .i64 b]:=by simp [flat2]
theorem flat2_get (l : List (Int × Int)) (s : Nat) (h : s < l.length) : (flat2 l)[s * 2]? = some (.int .i64 l[s].1) ∧ (flat2 l)[s * 2 + 1]? = some (.int .i64 l[s].2):=by
 induction l generalizing s with
 | nil => simp at h
 | cons p l ih =>
  cases s with
  | zero => exact ⟨rfl,rfl⟩
  | succ s =>
   have:=ih s (by simpa using h)
   rw [show (s + 1) * 2 = s * 2 + 1 + 1 by omega]
   simpa [flat2] using this
end Go.Proofs.YtjiadfblphdchaaGreatDoor
namespace Go.Proofs.YtjiadfblphdchaaGreatDoor
open Go.RowKit
set_option maxRecDepth 100000
/-- A node's first arrows: where to, and what is told. -/
def arrL (K N : Nat) (T : List Int) (u n : Nat) : List (Int × Int):=(List.range n).map fun s => ((toN K N u s : Int),labN K T u s)
theorem arrL_len (K N : Nat) (T : List Int) (u n : Nat) : (arrL K N T u n).length = n:=by simp [arrL]
theorem arrL_succ (K N : Nat) (T : List Int) (u n : Nat) : arrL K N T u (n + 1) = arrL K N T u n ++ [((toN K N u n : Int),labN K T u n)]:=by simp [arrL,List.range_succ]
/-- While they are written: all of the first k nodes, and the next node's first j. -/
def arrTo (K N : Nat) (T : List Int) (k j : Nat) (u : Nat) : List (Int × Int):=if u < k then arrL K N T u K else if u = k then arrL K N T u j else []
theorem arrTo_zero (K N : Nat) (T : List Int) : arrTo K N T 0 0 = fun _ => []:=by
 funext u; unfold arrTo
 rw [if_neg (by omega)]
 split
 ·simp [arrL]
 ·rfl
theorem arrTo_next (K N : Nat) (T : List Int) (k : Nat) : arrTo K N T k K = arrTo K N T (k + 1) 0:=by
 funext u; unfold arrTo
 by_cases h : u < k
 ·rw [if_pos h,if_pos (by omega)]
 ·rw [if_neg h]
  by_cases e : u = k
  ·rw [if_pos e,if_pos (by omega)]
  ·rw [if_neg e,if_neg (by omega)]
   split
   ·simp [arrL]
   ·rfl
theorem arrTo_at (K N : Nat) (T : List Int) (k j : Nat) : arrTo K N T k j k = arrL K N T k j:=by unfold arrTo; rw [if_neg (by omega),if_pos rfl]
theorem arrTo_step (K N : Nat) (T : List Int) (k j : Nat) : updN (arrTo K N T k j) k (arrL K N T k (j + 1)) = arrTo K N T k (j + 1):=by
 funext u
 by_cases e : u = k
 ·subst e; rw [updN_same,arrTo_at]
 ·rw [updN_other _ _ _ e]; unfold arrTo
  by_cases h : u < k
  ·rw [if_pos h,if_pos h]
  ·rw [if_neg h,if_neg h,if_neg e,if_neg e]
theorem twoArrow : TwoInts 124 126:=twoInts_mk (by kernel_rfl) (by kernel_rfl)
theorem oneArrows : OneCell 122 124 (.slice none 0 0) 24:=⟨by kernel_rfl,by kernel_rfl,rfl,by decide,fun _ => by kernel_rfl⟩
/-- What the names name: the outer row, the nodes' arrows. -/
structure AN (f : Names) (ov : Value) (vals : List Value) (n : Nat) (F : Nat → List (Int × Int)) : Prop where
 outer : f (1,0) = some (rowV 124 ov vals)
 len : vals.length = n
 rows : ∀ u,u < n → f (2,u) = some ⟨126,2,vAt vals u,(F u).length,flat2 (F u)⟩
section
variable {B : Nat} {w : World} {f : Names} {ov : Value} {vals : List Value} {n : Nat} {F : Nat → List (Int × Int)}
def nils2 (n : Nat) : Names:=fun i => if i.1 = 2 ∧ i.2 < n then some ⟨126,2,.slice none 0 0,0,[]⟩ else none
theorem rows_nils2 (B : Nat) (w : World) (n : Nat) : Rows B w (nils2 n):=by
 refine ⟨fun i r hi => ?_,fun i j r s hi _ _ => ?_⟩
 ·unfold nils2 at hi
  split at hi
  ·injection hi with hi; subst hi; exact World.ownsRow_nil w B _ 2
  ·cases hi
 ·left
  unfold nils2 at hi
  split at hi
  ·injection hi with hi; subst hi; rfl
  ·cases hi
theorem AN.made {w1 : World} (n : Nat) (hb : Below w.heap.size w w1) (hB : B ≤ w.heap.size) (ho : OwnV 124 w.heap.size w1 ov (List.replicate n (.slice none 0 0))) :
 ∃ f,Rows B w1 f ∧ AN f ov (List.replicate n (.slice none 0 0)) n (fun _ => []):=by
 refine ⟨_,(rows_nils2 B w n).add (i:=(1,0)) (r':=rowV 124 ov (List.replicate n (.slice none 0 0))) hb (ho.mono hB) (fun k hk => (ho.lt k hk).1),⟨upd_same _ _ _,by simp,fun u hu => ?_⟩⟩
 rw [upd_ne _ _ (by simp)]
 show nils2 n (2,u) = _
 unfold nils2
 rw [if_pos ⟨rfl,hu⟩]
 simp [vAt,List.getD,hu,flat2]
/-- out[u] = append(out[u], arrow). -/
theorem AN.app (h : AN f ov vals n F) (hr : Rows B w f) {w1 : World} {u g c : Nat} (hu : u < n) (x y : Int)
 (ho : w1.ownsRow B 126 2 (.slice (some ⟨g,0,none⟩) ((F u).length + 1) c) ((F u).length + 1) (flat2 (F u) ++ [.int .i64 x,.int .i64 y]))
 (hal : ((vAt vals u).ownBlock = some g ∧ w.grownBy w1 (vAt vals u).ownBlock) ∨ (w.heap.size ≤ g ∧ w.grownBy w1 none)) :
 w1.cell? (valAt ov u) = some (vAt vals u) ∧ w1.frozen? (valAt ov u) = false ∧ B ≤ (valAt ov u).block ∧
 ∃ f' vals',Rows B (w1.setCell (valAt ov u) (.slice (some ⟨g,0,none⟩) ((F u).length + 1) c)) f' ∧ AN f' ov vals' n (updN F u (F u ++ [(x,y)])):=by
 have hrow:=h.rows u hu
 have hg : w.grownBy w1 (vAt vals u).ownBlock:=grown_via (hal.imp (·.2) (·.2))
 have hob : (Value.slice (some ⟨g,0,none⟩) ((F u).length + 1) c).ownBlock = (vAt vals u).ownBlock ∨ ∃ k,(Value.slice (some ⟨g,0,none⟩) ((F u).length + 1) c).ownBlock = some k ∧ w.heap.size ≤ k:=by
  rcases hal with ⟨q,_⟩ | ⟨q,_⟩
  ·exact .inl q.symm
  ·exact .inr ⟨g,rfl,q⟩
 have h1:=hr.grown (r':=⟨126,2,.slice (some ⟨g,0,none⟩) ((F u).length + 1) c,(F u).length + 1,flat2 (F u) ++ [Value.int .i64 x,Value.int .i64 y]⟩) hrow hg (show Row.own B w1 ⟨_,_,_,_,_⟩ from ho) hob
 have ho' : upd f (2,u) (some ⟨126,2,.slice (some ⟨g,0,none⟩) ((F u).length + 1) c,(F u).length + 1,flat2 (F u) ++ [Value.int .i64 x,Value.int .i64 y]⟩) (1,0) = some (rowV 124 ov vals):=by rw [upd_ne _ _ (by simp)]; exact h.outer
 have hl : u < vals.length:=by rw [h.len]; exact hu
 have hO:=h1.ownV ho'
 refine ⟨hO.at.cellV u hl,hO.frz u hl,(hO.blkB u hl).2,_,_,h1.setV ho' u hl _,⟨upd_same _ _ _,by simpa using h.len,fun t ht => ?_⟩⟩
 rw [upd_ne _ _ (by simp)]
 by_cases e : t = u
 ·subst e
  rw [upd_same,vAt_set_same hl,updN_same,flat2_snoc]; simp
 ·rw [upd_ne _ _ (by simpa using e),vAt_set_ne e,updN_other _ _ _ e]
  exact h.rows t ht
end
/-- v reads each node's arrows. -/
def ArrowsAt (w : World) (v : Value) (K N : Nat) (T : List Int) : Prop :=
 ∃ vs,ValsAt w v vs ∧ vs.length = N ∧ ∀ u,u < N → ∃ g c,vAt vs u = .slice (some ⟨g,0,none⟩) K c ∧ K ≤ c ∧ ∀ s,s < K → w.cell? ⟨g,s * 2,none⟩ = some (.int .i64 (toN K N u s)) ∧ w.cell? ⟨g,s * 2 + 1,none⟩ = some (.int .i64 (labN K T u s))
theorem ArrowsAt.below {w w' : World} {v : Value} {K N : Nat} {T : List Int} (h : ArrowsAt w v K N T) (hb : Below w.heap.size w w') : ArrowsAt w' v K N T:=by
 obtain ⟨vs,h1,h2,h3⟩:=h
 refine ⟨vs,h1.below hb,h2,fun u hu => ?_⟩
 obtain ⟨g,c,e,hc,h4⟩:=h3 u hu
 exact ⟨g,c,e,hc,fun s hs => ⟨cell_keep hb (h4 s hs).1,cell_keep hb (h4 s hs).2⟩⟩
theorem AN.reads {B : Nat} {w : World} {f : Names} {ov : Value} {vals : List Value} {K N : Nat} {T : List Int} (hK : 1 ≤ K) (h : AN f ov vals N (arrTo K N T N 0)) (hr : Rows B w f) : ArrowsAt w ov K N T:=by
 refine ⟨vals,(hr.ownV h.outer).at,h.len,fun u hu => ?_⟩
 have hrow:=h.rows u hu
 have hF : arrTo K N T N 0 u = arrL K N T u K:=by unfold arrTo; rw [if_pos hu]
 rw [hF,arrL_len] at hrow
 obtain ⟨g,c,e,hc⟩:=row_shape (hr.1 _ _ hrow) hK
 refine ⟨g,c,e,hc,fun s hs => ?_⟩
 have c0:=hr.cell hrow (g:=g) (cap:=c) e (s * 2) (by simp; omega)
 have c1:=hr.cell hrow (g:=g) (cap:=c) e (s * 2 + 1) (by simp; omega)
 have:=flat2_get (arrL K N T u K) s (by rw [arrL_len]; exact hs)
 have ea : (arrL K N T u K)[s]'(by rw [arrL_len]; exact hs) = ((toN K N u s : Int),labN K T u s):=by simp [arrL]
 rw [ea] at this
 exact ⟨c0.trans this.1,c1.trans this.2⟩
set_option maxHeartbeats 2000000 in
theorem arrows_any (r : Nat → Addr) (K R : Nat) (va : Option Addr) (vn vc : Nat) (T : List Int) (w : World) (hg : Glob r w) (h : IntsAt w (.slice va vn vc) T) (hok : RuleOk K R T) (hl : T.length ≤ 256) :
 Calls Tryz.prog 76 #[.agg #[.int .i64 K,.int .i64 R,.slice va vn vc]] w (Ret1 (fun x w' => ArrowsAt w' x K (T.length / K) T) w):=by
 have b0:=belowAlloc w (.cells #[.int .i64 K,.int .i64 R,.slice va vn vc] 24)
 have q : Box3 (w.alloc (.cells #[.int .i64 K,.int .i64 R,.slice va vn vc] 24)) w.heap.size (.int .i64 K) (.int .i64 R) (.slice va vn vc):=by simp [Box3,go_sem]
 have hk1:=hok.k1
 have hk4:=hok.k4
 have hN0 : T.length / K ≤ 256:=Nat.le_trans (Nat.div_le_self _ _) hl
 have hEdge:=fun (u s : Nat) (w' : World) (hgl : Glob r w') (hT : IntsAt w' (.slice va vn vc) T) (hu : u < T.length / K) (hs : s < K) => over_Edge r K R va vn vc T u s w' hgl hT hok hl hu hs
 have hNodes:=fun (w' : World) (hgl : Glob r w') (hT : IntsAt w' (.slice va vn vc) T) => over_Nodes r K R va vn vc T w' hgl hT hok hl
 generalize T.length / K = N at *
 replace hEdge:=Lib.hid hEdge
 replace hNodes:=Lib.hid hNodes
 replace hg:=Lib.hid (hg.below b0)
 replace h:=Lib.hid (h.below b0)
 replace hok:=Lib.hid hok
 go_enter Tryz.func76,Tryz.ntmps76
 go_wp2_with fail
 refine (hNodes.out _ hg.out h.out).mono ?_
 rintro e w1 ⟨x,y,rfl,b1,rfl,rfl⟩
 have q1:=q.below b1
 have b01:=Below.step b0 b1
 have hg1:=hg.out.below b1
 have hT1:=h.out.below b1
 clear q
 go_wp2_with fail
 obtain ⟨ov,w2,mk,ho,hb2⟩:=run_makeW oneArrows (N : Int) N w1 rfl (by omega)
 obtain ⟨f1,hr1,h1⟩:=AN.made N hb2 (Nat.le_refl _) ho
 obtain ⟨oa,on,oc,rfl⟩:=ho.shape
 have lo:=fun w' => (ho.at).len oneArrows 3 w'
 rw [List.length_replicate] at lo
 rw [mk]
 simp only [Result.andThen]
 rw [← arrTo_zero K N T] at h1
 replace hr1:=Lib.hid hr1
 replace ho:=Lib.hid ho
 replace q1:=Lib.hid q1
 replace hg1:=Lib.hid hg1
 replace hT1:=Lib.hid hT1
 clear mk
 go_wp2_with fail
 clear lo
 go_loopw [20] (fun kv wr => ∃ (k : Nat) (f : Names) (vals : List Value),k ≤ N ∧ kv = .int .i64 k ∧ Rows w1.heap.size wr f ∧ Below w1.heap.size w1 wr ∧ AN f (.slice oa on oc) vals N (arrTo K N T k 0)) (fun kv _ => N - (intOf kv).toNat)
 case atStart => exact ⟨0,f1,_,by omega,rfl,hr1.out,hb2,h1⟩
 case round =>
  clear h1 ho hr1 hb2
  obtain ⟨k,f2,vals,hk,rfl,hr2,b2,h2⟩:=hrel
  obtain ⟨wo,rfl⟩ : ∃ wo : World,wo = wr:=⟨_,rfl⟩
  by_cases hlt : k < N
  ·have z0:=(q1.out.below b2).1.1
   replace hr2:=Lib.hid hr2
   go_wp2_with fail
   clear z0
   go_loopw [25] (fun jv wr => ∃ (j : Nat) (f : Names) (vals : List Value),j ≤ K ∧ jv = .int .i64 j ∧ Rows w1.heap.size wr f ∧ Below w1.heap.size w1 wr ∧ AN f (.slice oa on oc) vals N (arrTo K N T k j)) (fun jv _ => K - (intOf jv).toNat)
   case atStart => exact ⟨0,f2,vals,by omega,rfl,hr2.out,b2,h2⟩
   case round =>
    clear hr2 h2 b2
    obtain ⟨j,f3,vals,hj,rfl,hr3,b3,h3⟩:=hrel
    obtain ⟨wo,rfl⟩ : ∃ wo : World,wo = wr:=⟨_,rfl⟩
    by_cases hjl : j < K
    ·obtain ⟨z0,z1,z2⟩:=(q1.out.below b3).1
     replace hr3:=Lib.hid hr3
     go_wp2_with fail
     refine (hEdge.out k j _ (hg1.out.below b3) (hT1.out.below b3) hlt hjl).mono ?_
     rintro e w4 ⟨x,y,z,rfl,b4,rfl,rfl,rfl⟩
     have hr4:=hr3.out.below b4
     have b34:=Below.trans b3 (b4.mono b3.size)
     clear z0 z1 z2
     have hOV:=(hr4.ownV h3.outer).at
     have iO:=fun w' => hOV.idx oneArrows k (by rw [h3.len]; exact hlt) w'
     have cO:=hOV.cellV k (by rw [h3.len]; exact hlt)
     have hT:=hr4.1 _ _ (h3.rows k hlt)
     have hB4 : w1.heap.size ≤ w4.heap.size:=b34.size
     have happ:=fun (w5 : World) (g c : Nat) => h3.app hr4 (w1:=w5) (g:=g) (c:=c) hlt (toN K N k j) (labN K T k j)
     rw [arrTo_at,← arrL_succ,arrTo_step] at happ
     rw [arrTo_at] at hT
     unfold Row.own at hT
     simp only [arrL_len] at hT
     generalize vAt vals k = tv at *
     generalize valAt (.slice oa on oc) k = ua at *
     obtain ⟨X,hX⟩ : ∃ X,toN K N k j = X:=⟨_,rfl⟩
     obtain ⟨Y,hY⟩ : ∃ Y,labN K T k j = Y:=⟨_,rfl⟩
     rw [hX,hY] at happ ⊢
     replace happ:=Lib.hid happ
     replace hr4:=Lib.hid hr4
     replace hOV:=Lib.hid hOV
     replace hX:=Lib.hid hX
     replace hY:=Lib.hid hY
     go_wp2_with (at_builtin; go_loud (refine wpl_app2 twoArrow rfl _ _ rfl w1.heap.size tv j (flat2 (arrL K N T k j)) X Y _ hT rfl rfl (by simp) (by omega) hB4 ?_))
     intro g c w7 ho7 hal7
     obtain ⟨y1,y2,y3,f8,vals8,hr8,h8⟩:=happ.out w7 g c (by rw [arrL_len]; exact ho7) hal7
     rw [arrL_len] at hr8
     replace hr8:=Lib.hid hr8
     replace ho7:=Lib.hid ho7
     have b7 : Below w1.heap.size w4 w7:=by
      rcases hal7 with ⟨hv,hgr⟩ | ⟨_,hgr⟩
      ·exact (Below.refl _ _).grown hgr hB4 (fun m hm => (World.ownsRow.lt hT m hm).1)
      ·exact (Below.refl _ _).grown hgr hB4 (fun m hm => by cases hm)
     clear hal7 hT cO
     go_wp2
     go_roundw
     case measure => simp [intOf]; omega
     case rel => exact ⟨j + 1,f8,vals8,by omega,by go_num,hr8.out,(b34.trans b7).setCell y3 _,h8⟩
    ·obtain rfl : j = K:=by omega
     rw [arrTo_next] at h3
     replace hr3:=Lib.hid hr3
     go_wp2
     go_roundw
     case measure => simp [intOf]; omega
     case rel => exact ⟨k + 1,f3,vals,by omega,by go_num,hr3.out,b3,h3⟩
  ·obtain rfl : k = N:=by omega
   have hA:=h2.reads hk1 hr2
   replace hA:=Lib.hid hA
   replace hr2:=Lib.hid hr2
   have bE:=Below.step b01 b2
   go_wp2
   go_ret
   exact ⟨_,rfl,bE,hA.out⟩
end Go.Proofs.YtjiadfblphdchaaGreatDoor
namespace Go.Proofs.YtjiadfblphdchaaGreatDoor
/-- Of the first m places those that are the first or differ from the place before. -/
def ded (zs : List Int) : Nat → List Int
 | 0 => []
 | m + 1 => ded zs m ++ if m = 0 ∨ zs.getD m 0 ≠ zs.getD (m - 1) 0 then [zs.getD m 0] else []
theorem ded_len (zs : List Int) : ∀ m,(ded zs m).length ≤ m
 | 0 => Nat.le_refl _
 | m + 1 => by
  have:=ded_len zs m
  rw [ded,List.length_append]
  split <;> simp <;> omega
theorem sorted_getD {zs : List Int} (h : zs.Pairwise (· ≤ ·)) {i j : Nat} (hij : i ≤ j) (hj : j < zs.length) : zs.getD i 0 ≤ zs.getD j 0:=by
 simp only [List.getD_eq_getElem?_getD,List.getElem?_eq_getElem hj,List.getElem?_eq_getElem (show i < zs.length by omega),Option.getD_some]
 by_cases e : i = j
 ·subst e; exact Int.le_refl _
 ·exact List.pairwise_iff_getElem.1 h i j (by omega) hj (by omega)
theorem ded_spec {zs : List Int} (h : zs.Pairwise (· ≤ ·)) : ∀ m,m ≤ zs.length → (ded zs m).Pairwise (· < ·) ∧ (∀ x,x ∈ ded zs m ↔ x ∈ zs.take m)
 | 0,_ => by simp [ded]
 | m + 1,hm => by
  obtain ⟨h1,h2⟩:=ded_spec h m (by omega)
  have ht : zs.take (m + 1) = zs.take m ++ [zs.getD m 0]:=by
   rw [List.take_add_one,List.getElem?_eq_getElem (show m < zs.length by omega)]
   simp [List.getD,show m < zs.length by omega]
  have top : ∀ x ∈ zs.take m,m ≠ 0 ∧ x ≤ zs.getD (m - 1) 0:=fun x hx => by
   obtain ⟨i,hi,e⟩:=List.mem_iff_getElem.1 hx
   have hi' : i < m:=by rw [List.length_take] at hi; omega
   have:=sorted_getD h (show i ≤ m - 1 by omega) (by omega)
   rw [List.getElem_take] at e
   rw [List.getD_eq_getElem?_getD,List.getElem?_eq_getElem (show i < zs.length by omega),Option.getD_some,e] at this
   exact ⟨by omega,this⟩
  rw [ded,ht]
  by_cases c : m = 0 ∨ zs.getD m 0 ≠ zs.getD (m - 1) 0
  ·rw [if_pos c]
   refine ⟨List.pairwise_append.2 ⟨h1,by simp,fun a ha b hb => ?_⟩,fun x => by simp [h2]⟩
   rw [List.mem_singleton] at hb
   subst hb
   obtain ⟨t1,t2⟩:=top a ((h2 a).1 ha)
   have:=sorted_getD h (show m - 1 ≤ m by omega) (by omega)
   rcases c with c | c <;> omega
  ·rw [if_neg c,List.append_nil]
   refine ⟨h1,fun x => ?_⟩
   rw [h2,List.mem_append,List.mem_singleton]
   constructor
   ·exact .inl
   ·rintro (q | q)
    ·exact q
    ·have c2 : m ≠ 0 ∧ zs.getD m 0 = zs.getD (m - 1) 0:=by
      refine ⟨fun e => c (.inl e),?_⟩
      apply Classical.byContradiction
      intro e; exact c (.inr e)
     rw [q,c2.2,List.mem_iff_getElem]
     refine ⟨m - 1,by rw [List.length_take]; omega,?_⟩
     rw [List.getElem_take]
     simp [List.getD,show m - 1 < zs.length by omega]
theorem sorted_eqI : ∀ {L M : List Int},L.Pairwise (· < ·) → M.Pairwise (· < ·) → (∀ v,v ∈ L ↔ v ∈ M) → L = M
 | [],[],_,_,_ => rfl
 | [],b :: M,_,_,h => absurd ((h b).2 List.mem_cons_self) (by simp)
 | a :: L,[],_,_,h => absurd ((h a).1 List.mem_cons_self) (by simp)
 | a :: L,b :: M,hL,hM,h => by
  obtain ⟨a1,a2⟩:=List.pairwise_cons.1 hL
  obtain ⟨b1,b2⟩:=List.pairwise_cons.1 hM
  have hab : a = b:=by
   rcases List.mem_cons.1 ((h a).1 List.mem_cons_self) with e | e
   ·exact e
   ·rcases List.mem_cons.1 ((h b).2 List.mem_cons_self) with e2 | e2
    ·exact e2.symm
    ·have:=b1 a e; have:=a1 b e2; omega
  subst hab
  rw [sorted_eqI a2 b2 fun v => ?_]
  have:=h v
  simp only [List.mem_cons] at this
  constructor
  ·intro hv
   rcases this.1 (.inr hv) with e | e
   ·subst e; exact absurd (a1 v hv) (Int.lt_irrefl _)
   ·exact e
  ·intro hv
   rcases this.2 (.inr hv) with e | e
   ·subst e; exact absurd (b1 v hv) (Int.lt_irrefl _)
   ·exact e
/-- Sorted, the doubles gone: the ascending list of what leads there. -/
theorem ded_pair {K N : Nat} {T : List Int} (hN : 0 < N) {p : Nat} {zs : List Int} (hs : zs.Pairwise (· ≤ ·)) (hm : ∀ x,x ∈ zs ↔ x ∈ (rawP K N T (p / N) (p % N) K).map fun (n : Nat) => (n : Int)) :
 ded zs zs.length = (pairL K N T p).map fun (n : Nat) => (n : Int):=by
 obtain ⟨h1,h2⟩:=ded_spec hs zs.length (Nat.le_refl _)
 refine sorted_eqI h1 (List.pairwise_map.2 ((pairL_sorted K N T p).imp fun h => by omega)) fun v => ?_
 rw [h2,List.take_length,hm]
 simp only [List.mem_map]
 constructor
 ·rintro ⟨q,hq,rfl⟩; exact ⟨q,(mem_pairL hN).2 (mem_rawP.1 hq),rfl⟩
 ·rintro ⟨q,hq,rfl⟩; exact ⟨q,mem_rawP.2 ((mem_pairL hN).1 hq),rfl⟩
end Go.Proofs.YtjiadfblphdchaaGreatDoor
namespace Go.Proofs.YtjiadfblphdchaaGreatDoor
open Go.RowKit Go.Shelf
set_option maxRecDepth 100000
def Tryz.laysCompact_ren : Go.Shelf.Ren:=⟨fun | 20 => 78 | n => n,fun | 22 => 22 | 3 => 3 | 4 => 4 | 0 => 0 | n => n,fun | n => n⟩
theorem Tryz.laysCompact : Go.Proofs.Lays2.n20 Tryz.prog Tryz.laysCompact_ren:={
 mixed:=by kernel_rfl
 f20:=Tryz.func78.trans (congrArg some (by kernel_rfl))
 t0:=Tryz.underlying0
 a0:=Tryz.isAgg0
 z0:=Tryz.sizeOf0
 v0:=Tryz.zeroValue0
 t3:=Tryz.underlying3
 a3:=Tryz.isAgg3
 z3:=Tryz.sizeOf3
 v3:=Tryz.zeroValue3
 t4:=Tryz.underlying4
 a4:=Tryz.isAgg4
 z4:=Tryz.sizeOf4
 v4:=Tryz.zeroValue4
 t22:=Tryz.underlying22
 a22:=Tryz.isAgg22
 z22:=Tryz.sizeOf22
 v22:=Tryz.zeroValue22
 i3:=by kernel_rfl }
theorem compact_ded (zs : List Int) : Lib.compact zs = ded zs zs.length:=by
 have : ∀ m,m ≤ zs.length → Lib.compactUpTo zs.toArray m = ded zs m:=by
  intro m
  induction m with
  | zero => intro _; rfl
  | succ m ih =>
   intro hm
   rw [Lib.compactUpTo_succ,ih (by omega),ded]
   have e1 : zs.toArray[m]! = zs.getD m 0:=by
    rw [getElem!_pos zs.toArray m (by simp; omega)]; simp [List.getD,show m < zs.length by omega]
   have e2 : zs.toArray[m - 1]! = zs.getD (m - 1) 0:=by
    rw [getElem!_pos zs.toArray (m - 1) (by simp; omega)]; simp [List.getD,show m - 1 < zs.length by omega]
   unfold Lib.keeps
   rw [e1,e2]
   by_cases c : m = 0 ∨ zs.getD m 0 ≠ zs.getD (m - 1) 0
   ·rw [if_pos c,if_pos (by simpa using c)]
   ·rw [if_neg c,if_neg (by simpa using c)]
 exact this _ (Nat.le_refl _)
/-- One's own slice, cut at its front. -/
theorem OwnI.cutTo {B : Nat} {w : World} {a : Option Addr} {n c : Nat} {xs : List Int} (h : OwnI B w (.slice a n c) xs) (m : Nat) (hm : m ≤ xs.length) : OwnI B w (.slice a m c) (xs.take m):=by
 rcases h.2 with ⟨e,e2⟩ | ⟨g,cap,cur,e,hB,hg,hn,hcm,hs,ht⟩
 ·injection e with e1 e3 e4
  subst e1 e4
  obtain rfl:=List.length_eq_zero_iff.1 e2
  obtain rfl : m = 0:=by simpa using hm
  exact OwnI.nil B w
 ·injection e with e1 e3 e4
  subst e1 e4
  have hl : (xs.take m).length = m:=by simp; omega
  refine ⟨by simp,.inr ⟨g,c,cur,by rw [hl],hB,hg,by rw [hl]; omega,hcm,hs,?_⟩⟩
  rw [hl,List.map_take,← ht,List.take_take]
  congr 1
  omega
/-- slices.Compact at a list of one's own. -/
theorem compact_own (B : Nat) (v : Value) (xs : List Int) (w : World) (h : OwnI B w v xs) (hl : xs.length ≤ 9223372036854775807) :
 Calls Tryz.prog 78 #[v] w fun e w' => ∃ x,e = .returned x ∧ x.ownBlock = v.ownBlock ∧ OwnI B w' x (ded xs xs.length) ∧ Below B w w':=by
 rcases h.2 with ⟨rfl,hn⟩ | ⟨g,cap,cur,rfl,hb,hg,hn,hm,hs,ht⟩
 ·obtain rfl:=List.length_eq_zero_iff.1 hn
  refine Calls.mono (Any.slices_Compact_int_empty Tryz.laysCompact none 0 w) ?_
  rintro e w' ⟨rfl,rfl⟩
  exact ⟨_,rfl,rfl,h,Below.refl _ _⟩
 ·refine Calls.mono (Any.slices_Compact_int_cells Tryz.laysCompact g 0 xs.length cap xs w (Nat.le_refl _) hl hn (fun j hj => ?_) (fun j hj => ?_)) ?_
  ·have:=h.at.cellD j hj
   rw [valAt_row] at this
   simpa using this
  ·have:=h.frz j hj
   rw [valAt_row] at this
   simpa using this
  ·rintro e w' ⟨rfl,q,rfl⟩
   rw [List.take_length,compact_ded]
   have hd:=ded_len xs xs.length
   have hL : (ded xs xs.length ++ List.replicate (xs.length - (ded xs xs.length).length) (0 : Int)).length = xs.length:=by simp; omega
   have:=setCells_own (w0:=w) (ded xs xs.length ++ List.replicate (xs.length - (ded xs xs.length).length) 0) 0 xs (w.drewN q) rfl (by rw [hL]; omega) (h.drewN q) (below_drewN (Below.refl _ _) q)
   rw [hL,List.take_zero,List.nil_append,Nat.zero_add,List.drop_length,List.append_nil] at this
   have ho:=this.1.cutTo (ded xs xs.length).length (by rw [hL]; exact hd)
   rw [List.take_left'  rfl] at ho
   exact ⟨_,rfl,rfl,ho,this.2⟩
end Go.Proofs.YtjiadfblphdchaaGreatDoor
