/-
  Rows of structs of two ints: append, the address of an element, what a list of such rows reads.
  Walks: slices.ContainsFunc, graph.Check.
  Walk: graph.back: the arrows the other way round.
  Walk: pairs.arrows.
  Plain mathematics: an ascending list without its doubles.
  Walks: slices.Compact (its contract off the shelf) at a list of one's own.
  Walk: slices.Repeat of a list of one number.
  Walk: graph.first: breadth first.
  Walk: pairs.Graph.
  Walks: slices.DeleteFunc (its contract off the shelf) at the function that pairs.Apart hands it.
  Plain mathematics: among the pairs of equal nodes there is a way from each to each.
  Walk: graph's search begins a vertex.
  Walk: graph's search ends a vertex.
-/
import Derived.Test.YtncpnaoabkjegaaGreatDoorMAo5
import Derived.Deep.DeepCutAuto
import Derived.Ground.NamesProg
import Derived.Shelf.Slices.Cells
import Derived.Shelf.Bits.Mul64
import Derived.Deep.LoopGhost
import Derived.Ground.SlgfProg
import Derived.Shelf.SlGeneric
import Derived.Shelf.SlicesE.DeleteFunc
import Derived.Lib.SliceRun
namespace Go.Proofs.YtncpnaoabkjegaaGreatDoor
open Go.RowKit
set_option maxRecDepth 100000
/-- T: slices of E, a struct of two ints. -/
def TwoInts (T E : TypeId) : Prop:=Tryz.prog.underlying T = some (.slice E) ∧ ∃ i,Tryz.prog.info? E = some i ∧ i.zero = some (.agg #[.int .i64 0,.int .i64 0]) ∧ i.size = 2 ∧ i.bytes = 16
theorem twoInts_mk {T E : TypeId} (h1 : Tryz.prog.underlying T = some (.slice E)) (h2 : (Tryz.prog.info? E).map (fun i => (i.zero,i.size,i.bytes)) = some (some (.agg #[.int .i64 0,.int .i64 0]),2,16)) : TwoInts T E:=by
 refine ⟨h1,?_⟩
 cases h : Tryz.prog.info? E with
 | none => rw [h] at h2; cases h2
 | some i => rw [h] at h2; simp at h2; exact ⟨i,rfl,h2.1,h2.2.1,h2.2.2⟩
/-- append of one struct of two ints. -/
theorem run_app2 {T E : TypeId} (tc : TwoInts T E) (w : World) (B : Nat) (ty : TypeId) (v : Value) (m : Nat) (xs : List Value) (hown : w.ownsRow B E 2 v m xs)
 (b : Nat) (y0 y1 : Int) (hys : ∀ (j : Nat) (u : Value),([Value.int .i64 y0,.int .i64 y1] : List Value)[j]? = some u → w.cell? ((⟨b,0,none⟩ : Addr).add j) = some u) (hlen : m < 1000000) (hB : B ≤ w.heap.size) :
 ∃ g n' c' w',(Builtin.append_ #[T,T] ty #[v,.slice (some ⟨b,0,none⟩) 1 1]).run Tryz.prog w = .ok (.slice (some ⟨g,0,none⟩) n' c') w' ∧ n' = m + 1 ∧ w'.ownsRow B E 2 (.slice (some ⟨g,0,none⟩) (m + 1) c') (m + 1) (xs ++ [.int .i64 y0,.int .i64 y1]) ∧
  ((v.ownBlock = some g ∧ w.grownBy w' v.ownBlock) ∨ (g = w.heap.size ∧ w.grownBy w' none)):=by
 obtain ⟨ht,i,hi,hz0,hz1,hz2⟩:=tc
 have hzc : (Value.agg #[.int .i64 0,.int .i64 0]).cells = #[.int .i64 0,.int .i64 0]:=by rfl
 have hxl:=hown.1
 have big : ∀ (old : Nat),old < m + 1 →
  (w.drew.alloc (.cells (xs.toArray ++ [Value.int .i64 y0,.int .i64 y1].toArray ++ Builtin.zeroCells (Value.agg #[.int .i64 0,.int .i64 0]).cells (grownCap w (m + 1) old E - (m + 1))) E)).ownsRow B E 2 (.slice (some ⟨w.heap.size,0,none⟩) (m + 1) (grownCap w (m + 1) old E)) (m + 1) (xs ++ [.int .i64 y0,.int .i64 y1]):=by
  intro old ho
  have hge:=grownCap_ge w (m + 1) old E
  have hcm : grownCap w (m + 1) old E ≤ maxLen:=grownCap_le_maxLen w _ old E (by unfold maxLen; omega)
  refine ⟨by simp [hxl]; omega,.inr ⟨w.heap.size,_,_,rfl,hB,heap_alloc_new w.drew _,hge,hcm,?_,?_⟩⟩
  ·simp only [Array.size_append,List.size_toArray,size_zeroCells,hzc,hxl]
   simp
   omega
  ·simp only [Array.toList_append]
   exact List.take_left' (by simp [hxl]; omega)
 have grw : ∀ (oo : Obj),w.grownBy (w.drew.alloc oo) none:=fun oo => ⟨rfl,rfl,rfl,by simp,fun k hk _ => Below.heap_alloc w.drew oo k hk⟩
 rcases hown.2 with ⟨rfl,hn⟩ | ⟨g,cap,cur,rfl,hbg,hg,hnc,hcm,hcs,htake⟩
 ·subst hn
  obtain rfl:=List.length_eq_zero_iff.1 (show xs.length = 0 by omega)
  have hr:=run_append_nil (P:=Tryz.prog) w T ty E i _ ht hi hz0 ⟨b,0,none⟩ 1 1 [.int .i64 y0,.int .i64 y1] (by rw [hz1]; rfl) hys (by omega) (by omega) (by rw [hz2]; decide)
  have hbg:=big 0 (by omega)
  simp only [List.nil_append,Array.empty_append,Nat.zero_add] at hbg hr
  exact ⟨_,_,_,_,hr,rfl,by simpa using hbg,.inr ⟨rfl,grw _⟩⟩
 ·by_cases hroom : m + 1 ≤ cap
  ·have hr:=run_append_room (P:=Tryz.prog) w T ty E i ht hi g m cap cur hg ⟨b,0,none⟩ 1 1 [.int .i64 y0,.int .i64 y1] (by rw [hz1]; rfl) hys (by simp [Value.oneCell']) hroom (by rw [hz1,hcs]; simp; omega)
   refine ⟨_,_,_,_,hr,rfl,⟨by simp [hxl]; omega,.inr ⟨g,cap,_,rfl,hbg,setRow_heap w g cur _ E _ hg,hroom,hcm,?_,?_⟩⟩,.inl ⟨rfl,⟨rfl,rfl,rfl,by simp,fun k _ hk => setRow_other w g k _ (fun e => hk (by simp [Value.ownBlock,e]))⟩⟩⟩
   ·simp only [List.size_toArray,List.length_append,List.length_take,List.length_drop,Array.length_toList,hz1,hcs]
    simp
    omega
   ·rw [hz1,htake]
    exact List.take_left' (by simp [hxl]; omega)
  ·have holds : ∀ j u,xs[j]? = some u → w.cell? ((⟨g,0,none⟩ : Addr).add j) = some u:=World.ownsRow.cells hown (g:=g) rfl
   have hr:=run_append_grow (P:=Tryz.prog) w T ty E i _ ht hi hz0 ⟨g,0,none⟩ m cap xs (by rw [hz1]; exact hxl) holds ⟨b,0,none⟩ 1 1 [.int .i64 y0,.int .i64 y1] (by rw [hz1]; rfl) hys (by omega) (by omega) (by
    rw [hz2]
    exact growslice_fits (by omega) (by
     calc (m + 1) * 16 ≤ 1000000 * 16:=Nat.mul_le_mul_right _ hlen
      _ ≤ _:=by decide))
   exact ⟨_,_,_,_,hr,rfl,big cap (by omega),.inr ⟨rfl,grw _⟩⟩
/-- append(s, struct) in the text's order. -/
theorem wpl_app2 {T E : TypeId} (tc : TwoInts T E) {w : World} {ops : Array Oper} {rest : List Oper} {o : Oper} {a : Act} {Q : Exit → Act → World → Prop} (hgd : o.guard = none) (s x : Operand)
 (ho : o.op = .call { callee:=.builtin .append,args:=#[s,x],argTypes:=#[T,T] })
 (B : Nat) (v : Value) (m : Nat) (xs : List Value) (y0 y1 : Int) (b : Nat) (hown : w.ownsRow B E 2 v m xs) (hs : a.eval s = v) (hx : a.eval x = .slice (some ⟨b,0,none⟩) 1 1) (hb : b = w.heap.size)
 (hlen : m < 1000000) (hB : B ≤ w.heap.size)
 (h : ∀ g c w',w'.ownsRow B E 2 (.slice (some ⟨g,0,none⟩) (m + 1) c) (m + 1) (xs ++ [.int .i64 y0,.int .i64 y1]) → ((v.ownBlock = some g ∧ w.grownBy w' v.ownBlock) ∨ (w.heap.size ≤ g ∧ w.grownBy w' none)) → wpList Tryz.prog ops Q rest (a.put o.dst (.slice (some ⟨g,0,none⟩) (m + 1) c)) w') :
 wpList Tryz.prog ops Q (o :: rest) a (w.alloc (.cells #[.int .i64 y0,.int .i64 y1] E)):=by
 subst hb
 refine wpList_plain hgd fun K hK => ?_
 have hcells : ∀ (j : Nat) (u : Value),([Value.int .i64 y0,.int .i64 y1] : List Value)[j]? = some u → (w.alloc (.cells #[.int .i64 y0,.int .i64 y1] E)).cell? ((⟨w.heap.size,0,none⟩ : Addr).add j) = some u:=by
  intro j u hj
  have hn:=heap_alloc_new w (.cells #[.int .i64 y0,.int .i64 y1] E)
  match j,hj with
  | 0,hj => simp at hj; subst hj; simp only [World.cell?,Addr.add,if_true]; rw [hn]; rfl
  | 1,hj => simp at hj; subst hj; simp only [World.cell?,Addr.add,show ¬ (1 = 0) by decide,if_false]; rw [hn]; rfl
  | j + 2,hj => simp at hj
 obtain ⟨g,n',c',w',hr,rfl,h2,h3⟩:=run_app2 tc (w.alloc (.cells #[.int .i64 y0,.int .i64 y1] E)) B o.type v m xs (World.ownsRow.alloc hown _) w.heap.size y0 y1 hcells hlen (by simp; omega)
 unfold Oper.wp execOp
 simp only [ho,resolve,invoke,builtin,Sem.run_bind,Sem.run_pure,Result.andThen_ok,List.map_toArray,List.map_cons,List.map_nil,hs,hx]
 rw [hr]
 have hal : ∀ row,w.grownBy (w.alloc (.cells #[.int .i64 y0,.int .i64 y1] E)) row:=fun row => World.grownBy_alloc w _ row
 rcases h3 with ⟨hv,hg⟩ | ⟨hk,hg⟩
 ·exact hK _ _ (h g c' w' h2 (.inl ⟨hv,(hal v.ownBlock).trans hg⟩))
 ·exact hK _ _ (h g c' w' h2 (.inr ⟨by rw [hk]; simp,(hal none).trans hg⟩))
/-- The cells of such a row. -/
def flat2 (l : List (Int × Int)) : List Value:=l.flatMap fun p => [.int .i64 p.1,.int .i64 p.2]
theorem flat2_snoc (l : List (Int × Int)) (a b : Int) : flat2 (l ++ [(a,b)]) = flat2 l ++ [.int .i64 a,.int .i64 b]:=by simp [flat2]
theorem flat2_get (l : List (Int × Int)) (s : Nat) (h : s < l.length) : (flat2 l)[s * 2]? = some (.int .i64 l[s].1) ∧ (flat2 l)[s * 2 + 1]? = some (.int .i64 l[s].2):=by
 induction l generalizing s with
 | nil => simp at h
 | cons p l ih =>
  cases s with
  | zero => exact ⟨rfl,rfl⟩
  | succ s =>
   have:=ih s (by simpa using h)
   rw [show (s + 1) * 2 = s * 2 + 1 + 1 by omega]
   simpa [flat2] using this
def sGraph : ByteArray:=⟨#[103,114,97,112,104]⟩
/-- No vertex of n. -/
def oddT (n : Nat) (t : Int) : Bool:=decide (t < 0) || decide ((n : Int) ≤ t)
def arrowsTo (G : List (List Int)) : Nat → Nat
 | 0 => 0
 | k + 1 => arrowsTo G k + (G.getD k []).length
def oddTo (G : List (List Int)) : Nat → Int
 | 0 => -1
 | k + 1 => if oddTo G k < 0 then (if 0 ≤ idxOf (oddT G.length) (G.getD k []) then (k : Int) else oddTo G k) else oddTo G k
/-- What Check tells. -/
def checkG (G : List (List Int)) : PErr :=
 if 8192 < G.length then fresh sGraph 0 4
 else if 262144 < arrowsTo G G.length then fresh sGraph 1 4
 else if 0 ≤ oddTo G G.length then fresh sGraph (oddTo G G.length) 1
 else none
theorem arrowsTo_mono (G : List (List Int)) {k l : Nat} (h : k ≤ l) : arrowsTo G k ≤ arrowsTo G l:=by
 induction l with
 | zero => obtain rfl : k = 0:=by omega
           exact Nat.le_refl _
 | succ l ih =>
  by_cases e : k = l + 1
  ·subst e; exact Nat.le_refl _
  ·have:=ih (by omega); simp only [arrowsTo]; omega
theorem oddTo_neg (G : List (List Int)) : ∀ k,oddTo G k < 0 → ∀ v,v < k → ∀ t ∈ G.getD v [],oddT G.length t = false
 | 0,_,v,hv => by omega
 | k + 1,h,v,hv => by
  simp only [oddTo] at h
  by_cases hk : oddTo G k < 0
  ·rw [if_pos hk] at h
   by_cases hj : 0 ≤ idxOf (oddT G.length) (G.getD k [])
   ·rw [if_pos hj] at h; omega
   ·by_cases e : v = k
    ·subst e
     intro t ht
     rcases idxOf_cases (oddT G.length) (G.getD v []) with ⟨_,q⟩ | ⟨i,q,_⟩
     ·exact q t ht
     ·omega
    ·exact oddTo_neg G k hk v (by omega)
  ·rw [if_neg hk] at h; exact absurd h hk
theorem checkG_none {G : List (List Int)} (h : checkG G = none) : G.length ≤ 8192 ∧ arrowsTo G G.length ≤ 262144 ∧ GraphOk G:=by
 unfold checkG at h
 by_cases h1 : 8192 < G.length
 ·rw [if_pos h1] at h; cases h
 rw [if_neg h1] at h
 by_cases h2 : 262144 < arrowsTo G G.length
 ·rw [if_pos h2] at h; cases h
 rw [if_neg h2] at h
 by_cases h3 : 0 ≤ oddTo G G.length
 ·rw [if_pos h3] at h; cases h
 refine ⟨by omega,by omega,fun v hv t ht => ?_⟩
 have:=oddTo_neg G G.length (by omega) v hv t ht
 simp [oddT] at this
 omega
theorem graph_wrong (r : Nat → Addr) (at_ n : Int) (w : World) (hg : Glob r w) (h1 : 1 ≤ n) (h2 : n ≤ 11) :
 Calls Tryz.prog 189 #[.int .i64 at_,.int .i64 n] w (Ret1 (fun v w' => ErrIs r w' (fresh sGraph at_ n) v) w):=by
 go_enter Tryz.func189,Tryz.ntmps189
 go_wp2_with fail
 refine (new_any r _ at_ n w hg h1 h2).mono ?_
 rintro e w' ⟨v,rfl,hb,he⟩
 go_wp2
 go_ret
 exact ⟨_,rfl,hb,he⟩
theorem check1_any (x : Int) (na : Option Addr) (n nc : Nat) (b : Addr) (w : World) (hb : w.cell? b = some (.slice na n nc)) :
 Calls Tryz.prog 229 #[.int .i64 x,.pointer (some b)] w fun e w' => e = .returned (.bool (oddT n x)) ∧ w = w':=by
 by_cases h : x < 0
 ·have e : oddT n x = true:=by simp [oddT,h]
  rw [e]
  go_enter Tryz.func229,Tryz.ntmps229
  go_wp2
  go_ret
  exact ⟨rfl,rfl⟩
 ·have e : oddT n x = decide ((n : Int) ≤ x):=by simp [oddT,h]
  rw [e]
  go_enter Tryz.func229,Tryz.ntmps229
  go_wp2
  go_ret
  exact ⟨ret_bool (by simp),rfl⟩
theorem eg_check1 (args : Array Value) (w : World) : (callFunc 229 args).run Tryz.prog w = .ok (.enter 229 args) w:=by kernel_rfl
theorem containsFunc_any (v b : Value) (F : Nat) (xs : List Int) (p : Int → Bool) (w : World) (h : IntsAt w v xs)
 (eg : ∀ args w,(callFunc F args).run Tryz.prog w = .ok (.enter F args) w)
 (hF : ∀ x : Int,x ∈ xs → Calls Tryz.prog F #[.int .i64 x,b] w fun e w' => e = .returned (.bool (p x)) ∧ w = w') :
 Calls Tryz.prog 117 #[v,.func (.func F) #[] #[b]] w fun e w' => e = .returned (.bool (decide (0 ≤ idxOf p xs))) ∧ w = w':=by
 have hI:=indexFunc_any v b F xs p w h eg hF
 clear hF eg
 go_enter Tryz.func117,Tryz.ntmps117
 go_wp2_with fail
 refine hI.mono ?_
 rintro e w' ⟨rfl,rfl⟩
 go_wp2
 go_ret
 exact ⟨ret_bool (by simp),rfl⟩
set_option maxHeartbeats 2000000 in
theorem graph_check (r : Nat → Addr) (na : Option Addr) (nc : Nat) (G : List (List Int)) (w : World) (hg : Glob r w) (h : ListsAt w (.slice na G.length nc) G) (hsz : ∀ k,k < G.length → (G.getD k []).length ≤ 17592186044416) :
 Calls Tryz.prog 188 #[.slice na G.length nc] w (Ret1 (fun v w' => ErrIs r w' (checkG G) v) w):=by
 have b0 : Below w.heap.size w (w.alloc (.cells #[.slice na G.length nc] 76)):=(Below.refl _ _).alloc (Nat.le_refl _) _
 obtain ⟨w0,hw0⟩ : ∃ w0,w0 = w.alloc (.cells #[.slice na G.length nc] 76):=⟨_,rfl⟩
 have c0 : w0.cell? ⟨w.heap.size,0,none⟩ = some (.slice na G.length nc):=by simp [hw0,go_sem]
 rw [← hw0] at b0
 replace hsz:=Hd hsz
 replace hg:=Hd (hg.below b0)
 replace h:=Hd (h.below b0)
 have hn63 : G.length ≤ 9223372036854775807:=by
  obtain ⟨vs,h1,h2,_⟩:=h.out
  have:=h1.len_le; omega
 by_cases hbig : 8192 < G.length
 ·have hp : checkG G = fresh sGraph 0 4:=by unfold checkG; rw [if_pos hbig]
  rw [hp]
  replace hp:=Hd hp
  go_enter Tryz.func188,Tryz.ntmps188
  go_wp2_with fail
  rw [← hw0]
  clear hw0
  refine (graph_wrong r _ _ _ hg.out (by decide) (by decide)).mono ?_
  rintro e w' ⟨v,rfl,hb,he⟩
  replace he:=Hd he
  go_wp2
  go_ret
  exact ⟨_,rfl,Below.step b0 hb,he.out⟩
 ·have hpure : ∀ k,k ≤ G.length → 262144 < arrowsTo G k → checkG G = fresh sGraph 1 4:=fun k hk hq => by
   unfold checkG
   rw [if_neg hbig,if_pos (by have:=arrowsTo_mono G hk; omega)]
  have hend : arrowsTo G G.length ≤ 262144 → checkG G = if 0 ≤ oddTo G G.length then fresh sGraph (oddTo G G.length) 1 else none:=fun hq => by
   unfold checkG
   rw [if_neg hbig,if_neg (by omega)]
  replace hpure:=Hd hpure
  replace hend:=Hd hend
  have hgt : decide ((G.length : Int) > 8192) = false:=by simp; omega
  go_enter Tryz.func188,Tryz.ntmps188
  go_upto_if 9 with fail
  rw [← hw0]
  clear hw0
  go_wp2_with fail
  go_loopw [3,4,13] (fun a o i wr => ∃ k n : Nat,k ≤ G.length ∧ i = .int .i64 k ∧ a = .int .i64 (arrowsTo G k) ∧ o = .int .i64 (oddTo G k) ∧ arrowsTo G k ≤ 262144 ∧ wr = w0.drewN n) (fun _ _ i _ => G.length - (intOf i).toNat)
  case atStart => exact ⟨0,0,by omega,rfl,rfl,rfl,by simp [arrowsTo],rfl⟩
  case round =>
   obtain ⟨k,q,hk,rfl,rfl,rfl,hle,rfl⟩:=hrel
   by_cases hlt : k < G.length
   ·obtain ⟨mv,iR,cR,hM⟩:=h.out.row k hlt
    have hll:=hsz.out k hlt
    have ha1 : arrowsTo G (k + 1) = arrowsTo G k + (G.getD k []).length:=rfl
    have ho1 : oddTo G (k + 1) = if oddTo G k < 0 then (if 0 ≤ idxOf (oddT G.length) (G.getD k []) then (k : Int) else oddTo G k) else oddTo G k:=rfl
    generalize G.getD k [] = gk at *
    have lenM:=hM.len
    replace hM:=Hd hM
    by_cases hov : 262144 < arrowsTo G k + gk.length
    ·have hp:=hpure.out (k + 1) (by omega) (by omega)
     replace hp:=Hd hp
     replace ho1:=Hd ho1
     replace ha1:=Hd ha1
     go_wp2_with fail
     refine (graph_wrong r _ _ _ (hg.out.below (below_drewN (Below.refl _ _) q)) (by decide) (by decide)).mono ?_
     rintro e w' ⟨v,rfl,hb,he⟩
     replace he:=Hd he
     go_wp2
     go_ret
     exact ⟨_,rfl,Below.step b0 (Below.step (below_drewN (Below.refl _ _) q) hb),by rw [hp.out]; exact he.out⟩
    ·by_cases hod : oddTo G k < 0
     ·rw [if_pos hod] at ho1
      have hcf:=Hd (containsFunc_any mv (.pointer (some ⟨w.heap.size,0,none⟩)) 229 gk (oddT G.length) (w0.drewN q) (hM.out.drewN q) eg_check1 (fun x _ => check1_any x na G.length nc _ _ c0))
      by_cases hx : 0 ≤ idxOf (oddT G.length) gk
      ·rw [if_pos hx] at ho1
       replace ho1:=Hd ho1
       replace ha1:=Hd ha1
       go_wp2_with fail
       refine hcf.out.mono ?_
       rintro e w' ⟨rfl,rfl⟩
       rw [show decide (0 ≤ idxOf (oddT G.length) gk) = true by simpa using hx]
       replace hx:=Hd hx
       go_wp2
       go_round
       case measure => simp [intOf]; omega
       case rel => exact ⟨k + 1,_,by omega,by go_num,by rw [ha1.out]; go_num,by rw [ho1.out],by rw [ha1.out]; omega,rfl⟩
      ·rw [if_neg hx] at ho1
       replace ho1:=Hd ho1
       replace ha1:=Hd ha1
       go_wp2_with fail
       refine hcf.out.mono ?_
       rintro e w' ⟨rfl,rfl⟩
       rw [show decide (0 ≤ idxOf (oddT G.length) gk) = false by simpa using hx]
       replace hx:=Hd hx
       go_wp2
       go_round
       case measure => simp [intOf]; omega
       case rel => exact ⟨k + 1,_,by omega,by go_num,by rw [ha1.out]; go_num,by rw [ho1.out],by rw [ha1.out]; omega,rfl⟩
     ·rw [if_neg hod] at ho1
      replace ho1:=Hd ho1
      replace ha1:=Hd ha1
      go_wp2
      go_round
      case measure => simp [intOf]; omega
      case rel => exact ⟨k + 1,_,by omega,by go_num,by rw [ha1.out]; go_num,by rw [ho1.out],by rw [ha1.out]; omega,rfl⟩
   ·obtain rfl : k = G.length:=by omega
    have hp:=hend.out hle
    by_cases hod : 0 ≤ oddTo G G.length
    ·rw [if_pos hod] at hp
     replace hp:=Hd hp
     go_wp2_with fail
     refine (graph_wrong r _ _ _ (hg.out.below (below_drewN (Below.refl _ _) q)) (by decide) (by decide)).mono ?_
     rintro e w' ⟨v,rfl,hb,he⟩
     replace he:=Hd he
     go_wp2
     go_ret
     exact ⟨_,rfl,Below.step b0 (Below.step (below_drewN (Below.refl _ _) q) hb),by rw [hp.out]; exact he.out⟩
    ·rw [if_neg hod] at hp
     replace hp:=Hd hp
     go_wp2
     go_ret
     exact ⟨_,rfl,Below.step b0 (below_drewN (Below.refl _ _) q),by rw [hp.out]; rfl⟩
/-- What is told so far: the first k lists, and j of the next. -/
def BackTo (G : List (List Int)) (k j : Nat) (F : Nat → List Int) : Prop :=
 ∀ t,t < G.length → ((F t).length ≤ arrowsTo G k + j ∧ ∀ y : Int,y ∈ F t ↔ ∃ v : Nat,y = v ∧ (v < k ∧ (t : Int) ∈ G.getD v [] ∨ v = k ∧ (t : Int) ∈ (G.getD k []).take j))
theorem BackTo.zero (G : List (List Int)) : BackTo G 0 0 (fun _ => []):=by
 intro t _
 refine ⟨Nat.zero_le _,fun y => ⟨fun h => (by cases h),fun ⟨v,_,h⟩ => ?_⟩⟩
 rcases h with ⟨h,_⟩ | ⟨_,h⟩
 ·omega
 ·simp at h
theorem BackTo.next {G : List (List Int)} {k : Nat} {F : Nat → List Int} (h : BackTo G k (G.getD k []).length F) : BackTo G (k + 1) 0 F:=by
 intro t ht
 obtain ⟨h1,h2⟩:=h t ht
 refine ⟨by simpa [arrowsTo] using h1,fun y => ?_⟩
 rw [h2 y]
 constructor
 ·rintro ⟨v,hv,h⟩
  refine ⟨v,hv,.inl ?_⟩
  rcases h with ⟨a,b⟩ | ⟨rfl,b⟩
  ·exact ⟨by omega,b⟩
  ·rw [List.take_length] at b; exact ⟨by omega,b⟩
 ·rintro ⟨v,hv,h⟩
  rcases h with ⟨a,b⟩ | ⟨_,b⟩
  ·refine ⟨v,hv,?_⟩
   by_cases e : v = k
   ·subst e; exact .inr ⟨rfl,by rw [List.take_length]; exact b⟩
   ·exact .inl ⟨by omega,b⟩
  ·simp at b
theorem BackTo.add {G : List (List Int)} {k j u : Nat} {F : Nat → List Int} (h : BackTo G k j F) (hj : (G.getD k [])[j]? = some (u : Int)) : BackTo G k (j + 1) (updN F u (F u ++ [(k : Int)])):=by
 have hjl : j < (G.getD k []).length:=by
  by_cases q : j < (G.getD k []).length
  ·exact q
  ·rw [List.getElem?_eq_none (by omega)] at hj; cases hj
 have htk : (G.getD k []).take (j + 1) = (G.getD k []).take j ++ [(u : Int)]:=by
  rw [List.take_add_one,hj]; rfl
 intro t ht
 obtain ⟨h1,h2⟩:=h t ht
 by_cases e : t = u
 ·subst e
  rw [updN_same]
  refine ⟨by rw [List.length_append]; simp only [List.length_cons,List.length_nil]; omega,fun y => ?_⟩
  rw [List.mem_append,h2 y,htk]
  simp only [List.mem_singleton,List.mem_append]
  constructor
  ·rintro (⟨v,hv,h⟩ | rfl)
   ·refine ⟨v,hv,?_⟩
    rcases h with h | ⟨a,b⟩
    ·exact .inl h
    ·exact .inr ⟨a,.inl b⟩
   ·exact ⟨k,rfl,.inr ⟨rfl,.inr (by simp)⟩⟩
  ·rintro ⟨v,hv,h⟩
   rcases h with h | ⟨a,b | b⟩
   ·exact .inl ⟨v,hv,.inl h⟩
   ·exact .inl ⟨v,hv,.inr ⟨a,b⟩⟩
   ·right; rw [hv,a]
 ·rw [updN_other _ _ _ e]
  refine ⟨by omega,fun y => ?_⟩
  rw [h2 y,htk]
  simp only [List.mem_append,List.mem_singleton]
  constructor
  ·rintro ⟨v,hv,h⟩
   refine ⟨v,hv,?_⟩
   rcases h with h | ⟨a,b⟩
   ·exact .inl h
   ·exact .inr ⟨a,.inl b⟩
  ·rintro ⟨v,hv,h⟩
   refine ⟨v,hv,?_⟩
   rcases h with h | ⟨a,b | b⟩
   ·exact .inl h
   ·exact .inr ⟨a,b⟩
   ·exact absurd (by omega) e
/-- The graph turned: arrows the other way. -/
def TurnedOf (G H : List (List Int)) : Prop:=H.length = G.length ∧ (∀ t,t < G.length → (H.getD t []).length ≤ arrowsTo G G.length) ∧ ∀ t,t < G.length → ∀ y : Int,y ∈ H.getD t [] ↔ ∃ v : Nat,y = v ∧ v < G.length ∧ (t : Int) ∈ G.getD v []
theorem BackTo.turned {G : List (List Int)} {F : Nat → List Int} (h : BackTo G G.length 0 F) : TurnedOf G (rowsOf G.length F):=by
 refine ⟨rowsOf_len _ _,fun t ht => ?_,fun t ht y => ?_⟩
 ·rw [rowsOf_get _ _ _ ht]; simpa using (h t ht).1
 ·rw [rowsOf_get _ _ _ ht,(h t ht).2 y]
  constructor
  ·rintro ⟨v,hv,h⟩
   rcases h with h | ⟨_,h⟩
   ·exact ⟨v,hv,h.1,h.2⟩
   ·simp at h
  ·rintro ⟨v,hv,h⟩
   exact ⟨v,hv,.inl h⟩
set_option maxHeartbeats 4000000 in
theorem graph_back (na : Option Addr) (nc : Nat) (G : List (List Int)) (w : World) (h : ListsAt w (.slice na G.length nc) G) (hok : GraphOk G) (hn : G.length ≤ 8200) (harr : arrowsTo G G.length ≤ 262144) :
 Calls Tryz.prog 186 #[.slice na G.length nc] w (Ret1 (fun x w' => ∃ H,TurnedOf G H ∧ ListsAt w' x H) w):=by
 obtain ⟨ov,w1,mk,ho,hb1⟩:=run_makeW oneLists (G.length : Int) G.length w rfl (by omega)
 obtain ⟨f1,hr1,h1⟩:=WN.made G.length hb1 (Nat.le_refl _) ho
 obtain ⟨oa,on,oc,rfl⟩:=ho.shape
 have hlen : ∀ k,k < G.length → (G.getD k []).length ≤ 262144:=fun k hk => by
  have:=arrowsTo_mono G (show k + 1 ≤ G.length by omega)
  simp only [arrowsTo] at this; omega
 replace h:=Hd h
 replace hok:=Hd hok
 replace hr1:=Hd hr1
 replace ho:=Hd ho
 replace hlen:=Hd hlen
 go_enter Tryz.func186,Tryz.ntmps186
 go_wp2_with fail
 clear mk
 go_loopw [13] (fun kv wr => ∃ (k : Nat) (F : Nat → List Int) (f : Names) (vals : List Value),k ≤ G.length ∧ kv = .int .i64 k ∧ Rows w.heap.size wr f ∧ Below w.heap.size w wr ∧ WN f (.slice oa on oc) vals G.length F ∧ BackTo G k 0 F) (fun kv _ => G.length - (intOf kv).toNat)
 case atStart => exact ⟨0,_,f1,_,by omega,rfl,hr1.out,hb1,h1,BackTo.zero G⟩
 case round =>
  clear h1 ho hr1
  obtain ⟨k,F,f2,vals,hk,rfl,hr2,b2,h2,hB⟩:=hrel
  obtain ⟨wo,rfl⟩ : ∃ wo : World,wo = wr:=⟨_,rfl⟩
  by_cases hlt : k < G.length
  ·obtain ⟨mv,iR,cR0,hM0⟩:=h.out.row k hlt
   have cR:=(b2.cell (World.block_lt_of_cell? _ _ cR0)).trans cR0
   clear cR0
   have hM:=hM0.below b2
   have hgl:=hlen.out k hlt
   have hgp:=hok.out k hlt
   have hBadd:=fun (j u : Nat) (F : Nat → List Int) (h : BackTo G k j F) => h.add (u:=u)
   have hBnext:=fun (F : Nat → List Int) (h : BackTo G k (G.getD k []).length F) => h.next
   have hBlen:=fun (j t : Nat) (F : Nat → List Int) (h : BackTo G k j F) (ht : t < G.length) => (h t ht).1
   have harrk:=arrowsTo_mono G hk
   generalize G.getD k [] = gk at *
   have lM:=hM.len
   generalize valAt (.slice na G.length nc) k = ra at *
   replace hB:=Hd hB
   replace hBadd:=Hd hBadd
   replace hBnext:=Hd hBnext
   replace hBlen:=Hd hBlen
   replace hgp:=Hd hgp
   replace hr2:=Hd hr2
   replace hM:=Hd hM
   replace hM0:=Hd hM0
   go_wp2_with fail
   clear iR cR lM
   go_loopw [20] (fun jv wr => ∃ (j : Nat) (F : Nat → List Int) (f : Names) (vals : List Value),j ≤ gk.length ∧ jv = .int .i64 j ∧ Rows w.heap.size wr f ∧ Below w.heap.size w wr ∧ WN f (.slice oa on oc) vals G.length F ∧ BackTo G k j F) (fun jv _ => gk.length - (intOf jv).toNat)
   case atStart => exact ⟨0,F,f2,vals,by omega,rfl,hr2.out,b2,h2,hB.out⟩
   case round =>
    clear hB hr2 h2 b2 hM
    obtain ⟨j,F,f3,vals,hj,rfl,hr3,b3,h3,hB⟩:=hrel
    obtain ⟨wo,rfl⟩ : ∃ wo : World,wo = wr:=⟨_,rfl⟩
    by_cases hjl : j < gk.length
    ·have hMj:=hM0.out.below b3
     have hgj:=hgp.out gk[j] (List.getElem_mem hjl)
     obtain ⟨u,hu⟩ : ∃ u : Nat,gk[j] = u:=Int.eq_ofNat_of_zero_le hgj.1
     have hun : u < G.length:=by rw [hu] at hgj; omega
     have hgu : gk[j]? = some (u : Int):=by rw [List.getElem?_eq_getElem hjl,hu]
     have hgd : gk.getD j 0 = (u : Int):=by rw [List.getD_eq_getElem?_getD,hgu]; rfl
     have iJ:=fun w' => hMj.idx j hjl w'
     have cJ:=hMj.cellD j hjl
     rw [hgd] at cJ
     have hadd:=hBadd.out j u F hB hgu
     have hfl:=hBlen.out j u F hB hun
     have hOV:=(hr3.ownV h3.outer).at
     have iO:=fun w' => hOV.idx oneLists u (by rw [h3.len]; exact hun) w'
     have cO:=hOV.cellV u (by rw [h3.len]; exact hun)
     have hT:=hr3.ownI (h3.rows u hun)
     have happ:=fun (w1 : World) (v' : Value) => h3.app hr3 hun (w1:=w1) (v':=v') (k : Int)
     have hput:=fun (w1 : World) (v' : Value) (xs : List Int) => h3.put (B:=w.heap.size) (w1:=w1) hun (v':=v') (xs:=xs)
     have hB3 : w.heap.size ≤ wo.heap.size:=b3.size
     generalize valAt mv j = ja at *
     generalize vAt vals u = tv at *
     generalize valAt (.slice oa on oc) u = ua at *
     replace hadd:=Hd hadd
     replace happ:=Hd happ
     replace hput:=Hd hput
     replace hB:=Hd hB
     replace hr3:=Hd hr3
     replace hOV:=Hd hOV
     replace hgu:=Hd hgu
     replace hgd:=Hd hgd
     replace hu:=Hd hu
     replace hgj:=Hd hgj
     go_wp2_with (at_builtin; refine wpl_app1 rfl _ _ rfl w.heap.size tv (F u) k hT rfl rfl (by omega) hB3 ?_)
     intro v' w7 ho7 b7 hal7
     have hR7:=happ.out w7 v' ho7 hal7
     obtain ⟨y1,y2,y3,f8,hr8,h8,_⟩:=hput.out w7 v' _ hR7
     obtain ⟨va,vn,vc,rfl⟩:=ho7.at.shape
     replace hr8:=Hd hr8
     replace ho7:=Hd ho7
     replace hR7:=Hd hR7
     clear hal7 hT iJ cJ cO
     go_wp2
     go_roundw
     case measure => simp [intOf]; omega
     case rel => exact ⟨j + 1,_,f8,_,by omega,by go_num,hr8.out,(b3.trans b7).setCell y3 _,h8,hadd.out⟩
    ·obtain rfl : j = gk.length:=by omega
     have hnext:=hBnext.out F hB
     replace hnext:=Hd hnext
     replace hB:=Hd hB
     replace hr3:=Hd hr3
     go_wp2
     go_roundw
     case measure => simp [intOf]; omega
     case rel => exact ⟨k + 1,F,f3,vals,by omega,by go_num,hr3.out,b3,h3,hnext.out⟩
  ·obtain rfl : k = G.length:=by omega
   have hT:=hB.turned
   have hL:=h2.lists hr2
   replace hB:=Hd hB
   replace hT:=Hd hT
   replace hL:=Hd hL
   replace hr2:=Hd hr2
   go_wp2
   go_ret
   exact ⟨_,rfl,b2,_,hT.out,hL.out⟩
/-- A node's first arrows: where to, and what is told. -/
def arrL (K N : Nat) (T : List Int) (u n : Nat) : List (Int × Int):=(List.range n).map fun s => ((toN K N u s : Int),labN K T u s)
theorem arrL_len (K N : Nat) (T : List Int) (u n : Nat) : (arrL K N T u n).length = n:=by simp [arrL]
theorem arrL_succ (K N : Nat) (T : List Int) (u n : Nat) : arrL K N T u (n + 1) = arrL K N T u n ++ [((toN K N u n : Int),labN K T u n)]:=by simp [arrL,List.range_succ]
/-- While they are written: all of the first k nodes, and the next node's first j. -/
def arrTo (K N : Nat) (T : List Int) (k j : Nat) (u : Nat) : List (Int × Int):=if u < k then arrL K N T u K else if u = k then arrL K N T u j else []
theorem arrTo_zero (K N : Nat) (T : List Int) : arrTo K N T 0 0 = fun _ => []:=by
 funext u; unfold arrTo
 rw [if_neg (by omega)]
 split
 ·simp [arrL]
 ·rfl
theorem arrTo_next (K N : Nat) (T : List Int) (k : Nat) : arrTo K N T k K = arrTo K N T (k + 1) 0:=by
 funext u; unfold arrTo
 by_cases h : u < k
 ·rw [if_pos h,if_pos (by omega)]
 ·rw [if_neg h]
  by_cases e : u = k
  ·rw [if_pos e,if_pos (by omega)]
  ·rw [if_neg e,if_neg (by omega)]
   split
   ·simp [arrL]
   ·rfl
theorem arrTo_at (K N : Nat) (T : List Int) (k j : Nat) : arrTo K N T k j k = arrL K N T k j:=by unfold arrTo; rw [if_neg (by omega),if_pos rfl]
theorem arrTo_step (K N : Nat) (T : List Int) (k j : Nat) : updN (arrTo K N T k j) k (arrL K N T k (j + 1)) = arrTo K N T k (j + 1):=by
 funext u
 by_cases e : u = k
 ·subst e; rw [updN_same,arrTo_at]
 ·rw [updN_other _ _ _ e]; unfold arrTo
  by_cases h : u < k
  ·rw [if_pos h,if_pos h]
  ·rw [if_neg h,if_neg h,if_neg e,if_neg e]
theorem twoArrow : TwoInts 167 169:=twoInts_mk (by kernel_rfl) (by kernel_rfl)
theorem oneArrows : OneCell 165 167 (.slice none 0 0) 24:=⟨by kernel_rfl,by kernel_rfl,rfl,by decide,fun _ => by kernel_rfl⟩
/-- What the names name: the outer row, the nodes' arrows. -/
structure AN (f : Names) (ov : Value) (vals : List Value) (n : Nat) (F : Nat → List (Int × Int)) : Prop where
 outer : f (1,0) = some (rowV 167 ov vals)
 len : vals.length = n
 rows : ∀ u,u < n → f (2,u) = some ⟨169,2,vAt vals u,(F u).length,flat2 (F u)⟩
section
variable {B : Nat} {w : World} {f : Names} {ov : Value} {vals : List Value} {n : Nat} {F : Nat → List (Int × Int)}
def nils2 (n : Nat) : Names:=fun i => if i.1 = 2 ∧ i.2 < n then some ⟨169,2,.slice none 0 0,0,[]⟩ else none
theorem rows_nils2 (B : Nat) (w : World) (n : Nat) : Rows B w (nils2 n):=by
 refine ⟨fun i r hi => ?_,fun i j r s hi _ _ => ?_⟩
 ·unfold nils2 at hi
  split at hi
  ·injection hi with hi; subst hi; exact World.ownsRow_nil w B _ 2
  ·cases hi
 ·left
  unfold nils2 at hi
  split at hi
  ·injection hi with hi; subst hi; rfl
  ·cases hi
theorem AN.made {w1 : World} (n : Nat) (hb : Below w.heap.size w w1) (hB : B ≤ w.heap.size) (ho : OwnV 167 w.heap.size w1 ov (List.replicate n (.slice none 0 0))) :
 ∃ f,Rows B w1 f ∧ AN f ov (List.replicate n (.slice none 0 0)) n (fun _ => []):=by
 refine ⟨_,(rows_nils2 B w n).add (i:=(1,0)) (r':=rowV 167 ov (List.replicate n (.slice none 0 0))) hb (ho.mono hB) (fun k hk => (ho.lt k hk).1),⟨upd_same _ _ _,by simp,fun u hu => ?_⟩⟩
 rw [upd_ne _ _ (by simp)]
 show nils2 n (2,u) = _
 unfold nils2
 rw [if_pos ⟨rfl,hu⟩]
 simp [vAt,List.getD,hu,flat2]
/-- out[u] = append(out[u], arrow). -/
theorem AN.app (h : AN f ov vals n F) (hr : Rows B w f) {w1 : World} {u g c : Nat} (hu : u < n) (x y : Int)
 (ho : w1.ownsRow B 169 2 (.slice (some ⟨g,0,none⟩) ((F u).length + 1) c) ((F u).length + 1) (flat2 (F u) ++ [.int .i64 x,.int .i64 y]))
 (hal : ((vAt vals u).ownBlock = some g ∧ w.grownBy w1 (vAt vals u).ownBlock) ∨ (w.heap.size ≤ g ∧ w.grownBy w1 none)) :
 w1.cell? (valAt ov u) = some (vAt vals u) ∧ w1.frozen? (valAt ov u) = false ∧ B ≤ (valAt ov u).block ∧
 ∃ f' vals',Rows B (w1.setCell (valAt ov u) (.slice (some ⟨g,0,none⟩) ((F u).length + 1) c)) f' ∧ AN f' ov vals' n (updN F u (F u ++ [(x,y)])):=by
 have hrow:=h.rows u hu
 have hg : w.grownBy w1 (vAt vals u).ownBlock:=grown_via (hal.imp (·.2) (·.2))
 have hob : (Value.slice (some ⟨g,0,none⟩) ((F u).length + 1) c).ownBlock = (vAt vals u).ownBlock ∨ ∃ k,(Value.slice (some ⟨g,0,none⟩) ((F u).length + 1) c).ownBlock = some k ∧ w.heap.size ≤ k:=by
  rcases hal with ⟨q,_⟩ | ⟨q,_⟩
  ·exact .inl q.symm
  ·exact .inr ⟨g,rfl,q⟩
 have h1:=hr.grown (r':=⟨169,2,.slice (some ⟨g,0,none⟩) ((F u).length + 1) c,(F u).length + 1,flat2 (F u) ++ [Value.int .i64 x,Value.int .i64 y]⟩) hrow hg (show Row.own B w1 ⟨_,_,_,_,_⟩ from ho) hob
 have ho' : upd f (2,u) (some ⟨169,2,.slice (some ⟨g,0,none⟩) ((F u).length + 1) c,(F u).length + 1,flat2 (F u) ++ [Value.int .i64 x,Value.int .i64 y]⟩) (1,0) = some (rowV 167 ov vals):=by rw [upd_ne _ _ (by simp)]; exact h.outer
 have hl : u < vals.length:=by rw [h.len]; exact hu
 have hO:=h1.ownV ho'
 refine ⟨hO.at.cellV u hl,hO.frz u hl,(hO.blkB u hl).2,_,_,h1.setV ho' u hl _,⟨upd_same _ _ _,by simpa using h.len,fun t ht => ?_⟩⟩
 rw [upd_ne _ _ (by simp)]
 by_cases e : t = u
 ·subst e
  rw [upd_same,vAt_set_same hl,updN_same,flat2_snoc]; simp
 ·rw [upd_ne _ _ (by simpa using e),vAt_set_ne e,updN_other _ _ _ e]
  exact h.rows t ht
end
/-- v reads each node's arrows. -/
def ArrowsAt (w : World) (v : Value) (K N : Nat) (T : List Int) : Prop :=
 ∃ vs,ValsAt w v vs ∧ vs.length = N ∧ ∀ u,u < N → ∃ g c,vAt vs u = .slice (some ⟨g,0,none⟩) K c ∧ K ≤ c ∧ ∀ s,s < K → w.cell? ⟨g,s * 2,none⟩ = some (.int .i64 (toN K N u s)) ∧ w.cell? ⟨g,s * 2 + 1,none⟩ = some (.int .i64 (labN K T u s))
theorem ArrowsAt.below {w w' : World} {v : Value} {K N : Nat} {T : List Int} (h : ArrowsAt w v K N T) (hb : Below w.heap.size w w') : ArrowsAt w' v K N T:=by
 obtain ⟨vs,h1,h2,h3⟩:=h
 refine ⟨vs,h1.below hb,h2,fun u hu => ?_⟩
 obtain ⟨g,c,e,hc,h4⟩:=h3 u hu
 exact ⟨g,c,e,hc,fun s hs => ⟨cell_keep hb (h4 s hs).1,cell_keep hb (h4 s hs).2⟩⟩
theorem AN.reads {B : Nat} {w : World} {f : Names} {ov : Value} {vals : List Value} {K N : Nat} {T : List Int} (hK : 1 ≤ K) (h : AN f ov vals N (arrTo K N T N 0)) (hr : Rows B w f) : ArrowsAt w ov K N T:=by
 refine ⟨vals,(hr.ownV h.outer).at,h.len,fun u hu => ?_⟩
 have hrow:=h.rows u hu
 have hF : arrTo K N T N 0 u = arrL K N T u K:=by unfold arrTo; rw [if_pos hu]
 rw [hF,arrL_len] at hrow
 obtain ⟨g,c,e,hc⟩:=row_shape (hr.1 _ _ hrow) hK
 refine ⟨g,c,e,hc,fun s hs => ?_⟩
 have c0:=hr.cell hrow (g:=g) (cap:=c) e (s * 2) (by simp; omega)
 have c1:=hr.cell hrow (g:=g) (cap:=c) e (s * 2 + 1) (by simp; omega)
 have:=flat2_get (arrL K N T u K) s (by rw [arrL_len]; exact hs)
 have ea : (arrL K N T u K)[s]'(by rw [arrL_len]; exact hs) = ((toN K N u s : Int),labN K T u s):=by simp [arrL]
 rw [ea] at this
 exact ⟨c0.trans this.1,c1.trans this.2⟩
set_option maxHeartbeats 2000000 in
theorem arrows_any (r : Nat → Addr) (K R : Nat) (va : Option Addr) (vn vc : Nat) (T : List Int) (w : World) (hg : Glob r w) (h : IntsAt w (.slice va vn vc) T) (hok : RuleOk K R T) (hl : T.length ≤ 256) :
 Calls Tryz.prog 112 #[.agg #[.int .i64 K,.int .i64 R,.slice va vn vc]] w (Ret1 (fun x w' => ArrowsAt w' x K (T.length / K) T) w):=by
 have b0:=belowAlloc w (.cells #[.int .i64 K,.int .i64 R,.slice va vn vc] 24)
 have q : Box3 (w.alloc (.cells #[.int .i64 K,.int .i64 R,.slice va vn vc] 24)) w.heap.size (.int .i64 K) (.int .i64 R) (.slice va vn vc):=by simp [Box3,go_sem]
 have hk1:=hok.k1
 have hk4:=hok.k4
 have hN0 : T.length / K ≤ 256:=Nat.le_trans (Nat.div_le_self _ _) hl
 have hEdge:=fun (u s : Nat) (w' : World) (hgl : Glob r w') (hT : IntsAt w' (.slice va vn vc) T) (hu : u < T.length / K) (hs : s < K) => over_Edge r K R va vn vc T u s w' hgl hT hok hl hu hs
 have hNodes:=fun (w' : World) (hgl : Glob r w') (hT : IntsAt w' (.slice va vn vc) T) => over_Nodes r K R va vn vc T w' hgl hT hok hl
 generalize T.length / K = N at *
 replace hEdge:=Hd hEdge
 replace hNodes:=Hd hNodes
 replace hg:=Hd (hg.below b0)
 replace h:=Hd (h.below b0)
 replace hok:=Hd hok
 go_enter Tryz.func112,Tryz.ntmps112
 go_wp2_with fail
 refine (hNodes.out _ hg.out h.out).mono ?_
 rintro e w1 ⟨x,y,rfl,b1,rfl,rfl⟩
 have q1:=q.below b1
 have b01:=Below.step b0 b1
 have hg1:=hg.out.below b1
 have hT1:=h.out.below b1
 clear q
 go_wp2_with fail
 obtain ⟨ov,w2,mk,ho,hb2⟩:=run_makeW oneArrows (N : Int) N w1 rfl (by omega)
 obtain ⟨f1,hr1,h1⟩:=AN.made N hb2 (Nat.le_refl _) ho
 obtain ⟨oa,on,oc,rfl⟩:=ho.shape
 have lo:=fun w' => (ho.at).len oneArrows 3 w'
 rw [List.length_replicate] at lo
 rw [mk]
 simp only [Result.andThen]
 rw [← arrTo_zero K N T] at h1
 replace hr1:=Hd hr1
 replace ho:=Hd ho
 replace q1:=Hd q1
 replace hg1:=Hd hg1
 replace hT1:=Hd hT1
 clear mk
 go_wp2_with fail
 clear lo
 go_loopw [20] (fun kv wr => ∃ (k : Nat) (f : Names) (vals : List Value),k ≤ N ∧ kv = .int .i64 k ∧ Rows w1.heap.size wr f ∧ Below w1.heap.size w1 wr ∧ AN f (.slice oa on oc) vals N (arrTo K N T k 0)) (fun kv _ => N - (intOf kv).toNat)
 case atStart => exact ⟨0,f1,_,by omega,rfl,hr1.out,hb2,h1⟩
 case round =>
  clear h1 ho hr1 hb2
  obtain ⟨k,f2,vals,hk,rfl,hr2,b2,h2⟩:=hrel
  obtain ⟨wo,rfl⟩ : ∃ wo : World,wo = wr:=⟨_,rfl⟩
  by_cases hlt : k < N
  ·have z0:=(q1.out.below b2).1.1
   replace hr2:=Hd hr2
   go_wp2_with fail
   clear z0
   go_loopw [25] (fun jv wr => ∃ (j : Nat) (f : Names) (vals : List Value),j ≤ K ∧ jv = .int .i64 j ∧ Rows w1.heap.size wr f ∧ Below w1.heap.size w1 wr ∧ AN f (.slice oa on oc) vals N (arrTo K N T k j)) (fun jv _ => K - (intOf jv).toNat)
   case atStart => exact ⟨0,f2,vals,by omega,rfl,hr2.out,b2,h2⟩
   case round =>
    clear hr2 h2 b2
    obtain ⟨j,f3,vals,hj,rfl,hr3,b3,h3⟩:=hrel
    obtain ⟨wo,rfl⟩ : ∃ wo : World,wo = wr:=⟨_,rfl⟩
    by_cases hjl : j < K
    ·obtain ⟨z0,z1,z2⟩:=(q1.out.below b3).1
     replace hr3:=Hd hr3
     go_wp2_with fail
     refine (hEdge.out k j _ (hg1.out.below b3) (hT1.out.below b3) hlt hjl).mono ?_
     rintro e w4 ⟨x,y,z,rfl,b4,rfl,rfl,rfl⟩
     have hr4:=hr3.out.below b4
     have b34:=Below.trans b3 (b4.mono b3.size)
     clear z0 z1 z2
     have hOV:=(hr4.ownV h3.outer).at
     have iO:=fun w' => hOV.idx oneArrows k (by rw [h3.len]; exact hlt) w'
     have cO:=hOV.cellV k (by rw [h3.len]; exact hlt)
     have hT:=hr4.1 _ _ (h3.rows k hlt)
     have hB4 : w1.heap.size ≤ w4.heap.size:=b34.size
     have happ:=fun (w5 : World) (g c : Nat) => h3.app hr4 (w1:=w5) (g:=g) (c:=c) hlt (toN K N k j) (labN K T k j)
     rw [arrTo_at,← arrL_succ,arrTo_step] at happ
     rw [arrTo_at] at hT
     unfold Row.own at hT
     simp only [arrL_len] at hT
     generalize vAt vals k = tv at *
     generalize valAt (.slice oa on oc) k = ua at *
     obtain ⟨X,hX⟩ : ∃ X,toN K N k j = X:=⟨_,rfl⟩
     obtain ⟨Y,hY⟩ : ∃ Y,labN K T k j = Y:=⟨_,rfl⟩
     rw [hX,hY] at happ ⊢
     replace happ:=Hd happ
     replace hr4:=Hd hr4
     replace hOV:=Hd hOV
     replace hX:=Hd hX
     replace hY:=Hd hY
     go_wp2_with (at_builtin; go_loud (refine wpl_app2 twoArrow rfl _ _ rfl w1.heap.size tv j (flat2 (arrL K N T k j)) X Y _ hT rfl rfl (by simp) (by omega) hB4 ?_))
     intro g c w7 ho7 hal7
     obtain ⟨y1,y2,y3,f8,vals8,hr8,h8⟩:=happ.out w7 g c (by rw [arrL_len]; exact ho7) hal7
     rw [arrL_len] at hr8
     replace hr8:=Hd hr8
     replace ho7:=Hd ho7
     have b7 : Below w1.heap.size w4 w7:=by
      rcases hal7 with ⟨hv,hgr⟩ | ⟨_,hgr⟩
      ·exact (Below.refl _ _).grown hgr hB4 (fun m hm => (World.ownsRow.lt hT m hm).1)
      ·exact (Below.refl _ _).grown hgr hB4 (fun m hm => by cases hm)
     clear hal7 hT cO
     go_wp2
     go_roundw
     case measure => simp [intOf]; omega
     case rel => exact ⟨j + 1,f8,vals8,by omega,by go_num,hr8.out,(b34.trans b7).setCell y3 _,h8⟩
    ·obtain rfl : j = K:=by omega
     rw [arrTo_next] at h3
     replace hr3:=Hd hr3
     go_wp2
     go_roundw
     case measure => simp [intOf]; omega
     case rel => exact ⟨k + 1,f3,vals,by omega,by go_num,hr3.out,b3,h3⟩
  ·obtain rfl : k = N:=by omega
   have hA:=h2.reads hk1 hr2
   replace hA:=Hd hA
   replace hr2:=Hd hr2
   have bE:=Below.step b01 b2
   go_wp2
   go_ret
   exact ⟨_,rfl,bE,hA.out⟩
end Go.Proofs.YtncpnaoabkjegaaGreatDoor
namespace Go.Proofs.YtncpnaoabkjegaaGreatDoor
/-- Of the first m places those that are the first or differ from the place before. -/
def ded (zs : List Int) : Nat → List Int
 | 0 => []
 | m + 1 => ded zs m ++ if m = 0 ∨ zs.getD m 0 ≠ zs.getD (m - 1) 0 then [zs.getD m 0] else []
theorem ded_len (zs : List Int) : ∀ m,(ded zs m).length ≤ m
 | 0 => Nat.le_refl _
 | m + 1 => by
  have:=ded_len zs m
  rw [ded,List.length_append]
  split <;> simp <;> omega
theorem sorted_getD {zs : List Int} (h : zs.Pairwise (· ≤ ·)) {i j : Nat} (hij : i ≤ j) (hj : j < zs.length) : zs.getD i 0 ≤ zs.getD j 0:=by
 simp only [List.getD_eq_getElem?_getD,List.getElem?_eq_getElem hj,List.getElem?_eq_getElem (show i < zs.length by omega),Option.getD_some]
 by_cases e : i = j
 ·subst e; exact Int.le_refl _
 ·exact List.pairwise_iff_getElem.1 h i j (by omega) hj (by omega)
theorem ded_spec {zs : List Int} (h : zs.Pairwise (· ≤ ·)) : ∀ m,m ≤ zs.length → (ded zs m).Pairwise (· < ·) ∧ (∀ x,x ∈ ded zs m ↔ x ∈ zs.take m)
 | 0,_ => by simp [ded]
 | m + 1,hm => by
  obtain ⟨h1,h2⟩:=ded_spec h m (by omega)
  have ht : zs.take (m + 1) = zs.take m ++ [zs.getD m 0]:=by
   rw [List.take_add_one,List.getElem?_eq_getElem (show m < zs.length by omega)]
   simp [List.getD,show m < zs.length by omega]
  have top : ∀ x ∈ zs.take m,m ≠ 0 ∧ x ≤ zs.getD (m - 1) 0:=fun x hx => by
   obtain ⟨i,hi,e⟩:=List.mem_iff_getElem.1 hx
   have hi' : i < m:=by rw [List.length_take] at hi; omega
   have:=sorted_getD h (show i ≤ m - 1 by omega) (by omega)
   rw [List.getElem_take] at e
   rw [List.getD_eq_getElem?_getD,List.getElem?_eq_getElem (show i < zs.length by omega),Option.getD_some,e] at this
   exact ⟨by omega,this⟩
  rw [ded,ht]
  by_cases c : m = 0 ∨ zs.getD m 0 ≠ zs.getD (m - 1) 0
  ·rw [if_pos c]
   refine ⟨List.pairwise_append.2 ⟨h1,by simp,fun a ha b hb => ?_⟩,fun x => by simp [h2]⟩
   rw [List.mem_singleton] at hb
   subst hb
   obtain ⟨t1,t2⟩:=top a ((h2 a).1 ha)
   have:=sorted_getD h (show m - 1 ≤ m by omega) (by omega)
   rcases c with c | c <;> omega
  ·rw [if_neg c,List.append_nil]
   refine ⟨h1,fun x => ?_⟩
   rw [h2,List.mem_append,List.mem_singleton]
   constructor
   ·exact .inl
   ·rintro (q | q)
    ·exact q
    ·have c2 : m ≠ 0 ∧ zs.getD m 0 = zs.getD (m - 1) 0:=by
      refine ⟨fun e => c (.inl e),?_⟩
      apply Classical.byContradiction
      intro e; exact c (.inr e)
     rw [q,c2.2,List.mem_iff_getElem]
     refine ⟨m - 1,by rw [List.length_take]; omega,?_⟩
     rw [List.getElem_take]
     simp [List.getD,show m - 1 < zs.length by omega]
theorem sorted_eqI : ∀ {L M : List Int},L.Pairwise (· < ·) → M.Pairwise (· < ·) → (∀ v,v ∈ L ↔ v ∈ M) → L = M
 | [],[],_,_,_ => rfl
 | [],b :: M,_,_,h => absurd ((h b).2 List.mem_cons_self) (by simp)
 | a :: L,[],_,_,h => absurd ((h a).1 List.mem_cons_self) (by simp)
 | a :: L,b :: M,hL,hM,h => by
  obtain ⟨a1,a2⟩:=List.pairwise_cons.1 hL
  obtain ⟨b1,b2⟩:=List.pairwise_cons.1 hM
  have hab : a = b:=by
   rcases List.mem_cons.1 ((h a).1 List.mem_cons_self) with e | e
   ·exact e
   ·rcases List.mem_cons.1 ((h b).2 List.mem_cons_self) with e2 | e2
    ·exact e2.symm
    ·have:=b1 a e; have:=a1 b e2; omega
  subst hab
  rw [sorted_eqI a2 b2 fun v => ?_]
  have:=h v
  simp only [List.mem_cons] at this
  constructor
  ·intro hv
   rcases this.1 (.inr hv) with e | e
   ·subst e; exact absurd (a1 v hv) (Int.lt_irrefl _)
   ·exact e
  ·intro hv
   rcases this.2 (.inr hv) with e | e
   ·subst e; exact absurd (b1 v hv) (Int.lt_irrefl _)
   ·exact e
/-- Sorted, the doubles gone: the ascending list of what leads there. -/
theorem ded_pair {K N : Nat} {T : List Int} (hN : 0 < N) {p : Nat} {zs : List Int} (hs : zs.Pairwise (· ≤ ·)) (hm : ∀ x,x ∈ zs ↔ x ∈ (rawP K N T (p / N) (p % N) K).map fun (n : Nat) => (n : Int)) :
 ded zs zs.length = (pairL K N T p).map fun (n : Nat) => (n : Int):=by
 obtain ⟨h1,h2⟩:=ded_spec hs zs.length (Nat.le_refl _)
 refine sorted_eqI h1 (List.pairwise_map.2 ((pairL_sorted K N T p).imp fun h => by omega)) fun v => ?_
 rw [h2,List.take_length,hm]
 simp only [List.mem_map]
 constructor
 ·rintro ⟨q,hq,rfl⟩; exact ⟨q,(mem_pairL hN).2 (mem_rawP.1 hq),rfl⟩
 ·rintro ⟨q,hq,rfl⟩; exact ⟨q,mem_rawP.2 ((mem_pairL hN).1 hq),rfl⟩
open Go.RowKit Go.Shelf
set_option maxRecDepth 100000
def Tryz.laysCompact_ren : Go.Shelf.Ren:=⟨fun | 20 => 114 | n => n,fun | 22 => 22 | 3 => 3 | 4 => 4 | 0 => 0 | n => n,fun | n => n⟩
theorem Tryz.laysCompact : Go.Proofs.Lays2.n20 Tryz.prog Tryz.laysCompact_ren:={
 mixed:=by kernel_rfl
 f20:=Tryz.func114.trans (congrArg some (by kernel_rfl))
 t0:=Tryz.underlying0
 a0:=Tryz.isAgg0
 z0:=Tryz.sizeOf0
 v0:=Tryz.zeroValue0
 t3:=Tryz.underlying3
 a3:=Tryz.isAgg3
 z3:=Tryz.sizeOf3
 v3:=Tryz.zeroValue3
 t4:=Tryz.underlying4
 a4:=Tryz.isAgg4
 z4:=Tryz.sizeOf4
 v4:=Tryz.zeroValue4
 t22:=Tryz.underlying22
 a22:=Tryz.isAgg22
 z22:=Tryz.sizeOf22
 v22:=Tryz.zeroValue22
 i3:=by kernel_rfl }
theorem compact_ded (zs : List Int) : Lib.compact zs = ded zs zs.length:=by
 have : ∀ m,m ≤ zs.length → Lib.compactUpTo zs.toArray m = ded zs m:=by
  intro m
  induction m with
  | zero => intro _; rfl
  | succ m ih =>
   intro hm
   rw [Lib.compactUpTo_succ,ih (by omega),ded]
   have e1 : zs.toArray[m]! = zs.getD m 0:=by
    rw [getElem!_pos zs.toArray m (by simp; omega)]; simp [List.getD,show m < zs.length by omega]
   have e2 : zs.toArray[m - 1]! = zs.getD (m - 1) 0:=by
    rw [getElem!_pos zs.toArray (m - 1) (by simp; omega)]; simp [List.getD,show m - 1 < zs.length by omega]
   unfold Lib.keeps
   rw [e1,e2]
   by_cases c : m = 0 ∨ zs.getD m 0 ≠ zs.getD (m - 1) 0
   ·rw [if_pos c,if_pos (by simpa using c)]
   ·rw [if_neg c,if_neg (by simpa using c)]
 exact this _ (Nat.le_refl _)
/-- One's own slice, cut at its front. -/
theorem OwnI.cutTo {B : Nat} {w : World} {a : Option Addr} {n c : Nat} {xs : List Int} (h : OwnI B w (.slice a n c) xs) (m : Nat) (hm : m ≤ xs.length) : OwnI B w (.slice a m c) (xs.take m):=by
 rcases h.2 with ⟨e,e2⟩ | ⟨g,cap,cur,e,hB,hg,hn,hcm,hs,ht⟩
 ·injection e with e1 e3 e4
  subst e1 e4
  obtain rfl:=List.length_eq_zero_iff.1 e2
  obtain rfl : m = 0:=by simpa using hm
  exact OwnI.nil B w
 ·injection e with e1 e3 e4
  subst e1 e4
  have hl : (xs.take m).length = m:=by simp; omega
  refine ⟨by simp,.inr ⟨g,c,cur,by rw [hl],hB,hg,by rw [hl]; omega,hcm,hs,?_⟩⟩
  rw [hl,List.map_take,← ht,List.take_take]
  congr 1
  omega
/-- slices.Compact at a list of one's own. -/
theorem compact_own (B : Nat) (v : Value) (xs : List Int) (w : World) (h : OwnI B w v xs) (hl : xs.length ≤ 9223372036854775807) :
 Calls Tryz.prog 114 #[v] w fun e w' => ∃ x,e = .returned x ∧ x.ownBlock = v.ownBlock ∧ OwnI B w' x (ded xs xs.length) ∧ Below B w w':=by
 rcases h.2 with ⟨rfl,hn⟩ | ⟨g,cap,cur,rfl,hb,hg,hn,hm,hs,ht⟩
 ·obtain rfl:=List.length_eq_zero_iff.1 hn
  refine Calls.mono (Any.slices_Compact_int_empty Tryz.laysCompact none 0 w) ?_
  rintro e w' ⟨rfl,rfl⟩
  exact ⟨_,rfl,rfl,h,Below.refl _ _⟩
 ·refine Calls.mono (Any.slices_Compact_int_cells Tryz.laysCompact g 0 xs.length cap xs w (Nat.le_refl _) hl hn (fun j hj => ?_) (fun j hj => ?_)) ?_
  ·have:=h.at.cellD j hj
   rw [valAt_row] at this
   simpa using this
  ·have:=h.frz j hj
   rw [valAt_row] at this
   simpa using this
  ·rintro e w' ⟨rfl,q,rfl⟩
   rw [List.take_length,compact_ded]
   have hd:=ded_len xs xs.length
   have hL : (ded xs xs.length ++ List.replicate (xs.length - (ded xs xs.length).length) (0 : Int)).length = xs.length:=by simp; omega
   have:=setCells_own (w0:=w) (ded xs xs.length ++ List.replicate (xs.length - (ded xs xs.length).length) 0) 0 xs (w.drewN q) rfl (by rw [hL]; omega) (h.drewN q) (below_drewN (Below.refl _ _) q)
   rw [hL,List.take_zero,List.nil_append,Nat.zero_add,List.drop_length,List.append_nil] at this
   have ho:=this.1.cutTo (ded xs xs.length).length (by rw [hL]; exact hd)
   rw [List.take_left'  rfl] at ho
   exact ⟨_,rfl,rfl,ho,this.2⟩
def Tryz.laysMul_ren : Go.Shelf.Ren:=⟨fun | 212 => 183 | 263 => 225 | 264 => 226 | n => n,fun | 46 => 252 | 51 => 283 | 146 => 285 | 53 => 272 | 148 => 287 | n => n,fun | n => n⟩
theorem Tryz.laysMul : Go.Proofs.Lays.n212 Tryz.prog Tryz.laysMul_ren:={
 mixed:=by kernel_rfl
 f212:=Tryz.func183.trans (congrArg some (by kernel_rfl))
 f263:=Tryz.func225.trans (congrArg some (by kernel_rfl))
 f264:=Tryz.func226.trans (congrArg some (by kernel_rfl))
 t46:=Tryz.underlying252
 a46:=Tryz.isAgg252
 z46:=Tryz.sizeOf252
 v46:=Tryz.zeroValue252
 t51:=Tryz.underlying283
 a51:=Tryz.isAgg283
 z51:=Tryz.sizeOf283
 v51:=Tryz.zeroValue283
 t53:=Tryz.underlying272
 a53:=Tryz.isAgg272
 z53:=Tryz.sizeOf272
 v53:=Tryz.zeroValue272
 t146:=Tryz.underlying285
 a146:=Tryz.isAgg285
 z146:=Tryz.sizeOf285
 v146:=Tryz.zeroValue285
 t148:=Tryz.underlying287
 a148:=Tryz.isAgg287
 z148:=Tryz.sizeOf287
 v148:=Tryz.zeroValue287 }
/-- copy(d, u), d at place off of an owned slice, u longer perhaps than the room. -/
theorem run_copyMin {w : World} {B : Nat} {v u d : Value} {xs ys : List Int} (off : Nat) (ty : TypeId) (dp : Option Addr) (dLen dCap : Nat) (hown : OwnI B w v xs) (hu : IntsAt w u ys) (hd : d = .slice dp dLen dCap)
 (hfit : off + dLen ≤ xs.length) (h0 : 0 < dLen) (h1 : 0 < ys.length) (hdp : dp = some (valAt v off)) :
 ∃ w',(Builtin.copy_ #[22,22] ty #[d,u]).run Tryz.prog w = .ok (.int .i64 ((ys.take dLen).length : Int)) w' ∧ OwnI B w' v (xs.take off ++ ys.take dLen ++ xs.drop (off + (ys.take dLen).length)) ∧ Below B w w':=by
 subst hd
 obtain ⟨sp,sCap,rfl,hc1,h2,h3,h4⟩:=hu
 subst hdp
 cases sp with
 | none => have:=h3 rfl; omega
 | some p =>
  rcases hown.2 with ⟨rfl,hn⟩ | ⟨g,cap,cur,rfl,hb,hg,hn,hm,hcs,ht⟩
  ·omega
  ·rw [valAt_row]
   obtain ⟨zs,hzs⟩ : ∃ zs,zs = ys.take dLen:=⟨_,rfl⟩
   have hzl : zs.length = Nat.min ys.length dLen:=by rw [hzs,List.length_take,Nat.min_comm]
   have hzd : zs.length ≤ dLen:=by rw [hzl]; exact Nat.min_le_right _ _
   rw [← hzs]
   have hsrc : ∀ j u,(zs.map (Value.int .i64))[j]? = some u → w.cell? (p.add j) = some u:=by
    intro j u hj
    have hjl : j < zs.length:=by have:=(List.getElem?_eq_some_iff.1 hj).1; simpa using this
    have hjy : j < ys.length:=by rw [hzl] at hjl; exact Nat.lt_of_lt_of_le hjl (Nat.min_le_left _ _)
    have:=h4 j hjy
    simp only [valAt] at this
    rw [this,← hj,List.getElem?_map,List.getElem?_eq_getElem hjl]
    simp [hzs]
   have hcl : cur.toList.length = cap:=by rw [Array.length_toList,hcs]; omega
   have hr:=run_copy_row (P:=Tryz.prog) w 22 22 ty 3 g off dLen dCap p ys.length sCap cur 3 (zs.map (.int .i64)) uInts sizeInt1 hg (by rw [List.length_map]; exact hzl) hsrc (by rw [hcs,List.length_map]; omega) (ints_oneCell _ _)
   rw [show goInt (zs.map (Value.int .i64)).length = .int .i64 zs.length by rw [List.length_map]; rfl] at hr
   have hst : w.grownBy (w.setRow g (cur.toList.take off ++ zs.map (Value.int .i64) ++ cur.toList.drop (off + (zs.map (Value.int .i64)).length)).toArray) (some g) :=
    ⟨rfl,rfl,rfl,by simp,fun k _ hk => setRow_other w g k _ (fun e => hk (by simp [e]))⟩
   refine ⟨_,hr,?_,(Below.refl _ _).grown hst (by have:=(Array.getElem?_eq_some_iff.1 hg).1; omega) (by intro k hk; simp at hk; omega)⟩
   have hlen : (xs.take off ++ zs ++ xs.drop (off + zs.length)).length = xs.length:=by simp; omega
   refine ⟨by simp,.inr ⟨g,cap,_,by rw [hlen],hb,setRow_heap w g cur _ _ _ hg,by rw [hlen]; exact hn,hm,?_,?_⟩⟩
   ·simp only [List.size_toArray,List.length_append,List.length_take,List.length_drop,List.length_map,hcl]; omega
   ·rw [hlen]
    have e:=splice_take cur.toList (zs.map (Value.int .i64)) off xs.length (by rw [List.length_map]; omega) (by omega)
    rw [Nat.mul_one] at ht ⊢
    rw [e,ht]
    simp [List.map_take,List.map_drop]
/-- Some copies, zeros behind. -/
def reps (x : Int) (m n : Nat) : List Int:=List.replicate m x ++ List.replicate (n - m) 0
theorem reps_len (x : Int) {m n : Nat} (h : m ≤ n) : (reps x m n).length = n:=by simp [reps]; omega
theorem reps_full (x : Int) (n : Nat) : reps x n n = List.replicate n x:=by simp [reps]
theorem reps_splice (x : Int) {m n k : Nat} (hk : m + k ≤ n) : (reps x m n).take m ++ List.replicate k x ++ (reps x m n).drop (m + k) = reps x (m + k) n:=by
 unfold reps
 rw [List.take_left' (by simp),List.drop_append,List.drop_eq_nil_of_le (by simp),List.nil_append,List.length_replicate,List.drop_replicate,List.replicate_append_replicate]
 congr 2
 omega
theorem mul_any (x y : Nat) (hx : x < 100000) (hy : y < 100000) (w : World) :
 Calls Tryz.prog 183 #[.int .u64 x,.int .u64 y] w fun e w' => e = .returned (.tuple #[.int .u64 0,.int .u64 ((x * y : Nat) : Int)]) ∧ w = w':=by
 refine (Any.bits_Mul Tryz.laysMul x y (by omega) (by omega) w).mono ?_
 rintro e w' ⟨rfl,rfl⟩
 have h : x * y < 10000000000:=by
  calc x * y ≤ 99999 * 99999:=Nat.mul_le_mul (by omega) (by omega)
   _ < _:=by decide
 rw [Nat.div_eq_of_lt (by omega),Nat.mod_eq_of_lt (by omega)]
 exact ⟨rfl,rfl⟩
set_option maxHeartbeats 1000000 in
theorem repeat_any (v : Value) (x : Int) (n : Nat) (w : World) (h : IntsAt w v [x]) (hn : n ≤ 10000) :
 Calls Tryz.prog 116 #[v,.int .i64 n] w (Ret1 (fun u w' => OwnI w.heap.size w' u (List.replicate n x)) w):=by
 have hl:=h.len
 obtain ⟨u,w1,hmk,hu,hb1⟩:=run_makeI (n : Int) n w rfl (by omega)
 have hM:=mul_any 1 n (by omega) (by omega) w
 rw [Nat.one_mul] at hM
 replace hM:=Hd hM
 obtain ⟨ua,un,uc,rfl⟩:=hu.at.shape
 go_enter Tryz.func116,Tryz.ntmps116
 have hcp : ∃ w2,(Builtin.copy_ #[22,22] 3 #[.slice ua un uc,v]).run Tryz.prog w1 = .ok (.int .i64 ((min 1 n : Nat) : Int)) w2 ∧ OwnI w.heap.size w2 (.slice ua un uc) (reps x (min 1 n) n) ∧ Below w.heap.size w1 w2:=by
  have hun : un = n:=by
   obtain ⟨a,c,e,_⟩:=hu.at
   injection e with _ e _
   rw [e]; simp
  have hv:=h.below hb1
  by_cases h0 : n = 0
  ·subst h0; subst hun
   obtain ⟨sp,sc,rfl,_⟩:=hv
   refine ⟨w1,run_copy_none (P:=Tryz.prog) w1 22 22 3 3 ua sp 0 uc 1 sc uInts sizeInt1 (by simp),?_,Below.refl _ _⟩
   simpa [reps] using hu
  ·subst hun
   have hva : ua = some (valAt (.slice ua un uc) 0):=by
    rcases hu.2 with ⟨e,hn0⟩ | ⟨g,cap,cur,e,_⟩
    ·rw [List.length_replicate] at hn0; exact absurd hn0 h0
    ·injection e with e1 e2 e3
     subst e1; rfl
   obtain ⟨w2,h1,h2,h3⟩:=run_copyMin (ys:=[x]) 0 3 ua un uc hu hv rfl (by rw [List.length_replicate]; omega) (by omega) (by simp) hva
   have ht : ([x] : List Int).take un = [x]:=List.take_of_length_le (by show 1 ≤ un; omega)
   rw [ht] at h1 h2
   refine ⟨w2,?_,?_,h3⟩
   ·rw [h1,Nat.min_eq_left (by omega)]; rfl
   ·rw [Nat.min_eq_left (by omega)]
    have e:=reps_splice x (m:=0) (n:=un) (k:=1) (by omega)
    have e2 : reps x 0 un = List.replicate un 0:=by simp [reps]
    rw [e2] at e
    rw [← e]
    exact h2
 obtain ⟨w2,hcp,ho2,hb2⟩:=hcp
 replace hu:=Hd hu
 replace ho2:=Hd ho2
 have hb:=Hd (hb1.trans hb2)
 go_wp2_with fail
 refine hM.out.mono ?_
 rintro e w' ⟨rfl,rfl⟩
 go_wp2_with fail
 go_loopw [8] (fun mv wr => ∃ m : Nat,min 1 n ≤ m ∧ m ≤ n ∧ mv = .int .i64 m ∧ OwnI w.heap.size wr (.slice ua un uc) (reps x m n) ∧ Below w.heap.size w wr) (fun mv _ => n - (intOf mv).toNat)
 case atStart => exact ⟨min 1 n,Nat.le_refl _,Nat.min_le_right _ _,rfl,ho2.out,hb.out⟩
 case round =>
  obtain ⟨m,hm1,hm2,rfl,ho,hbr⟩:=hrel
  obtain ⟨wo,rfl⟩ : ∃ wo : World,wo = wr:=⟨_,rfl⟩
  have hl2:=ho.at.len
  rw [reps_len x hm2] at hl2
  by_cases hlt : m < n
  ·have hm0 : 1 ≤ m:=by omega
   obtain ⟨g,cap,cur,e,hgB,_,hnc,_⟩ : ∃ g cap cur,Value.slice ua un uc = .slice (some ⟨g,0,none⟩) (reps x m n).length cap ∧ w.heap.size ≤ g ∧ wo.heap[g]? = some (.cells cur 3 (0,0)) ∧ (reps x m n).length ≤ cap ∧ True:=by
    rcases ho.2 with ⟨_,hn0⟩ | ⟨g,cap,cur,e,h1,h2,h3,_⟩
    ·rw [reps_len x hm2] at hn0; omega
    ·exact ⟨g,cap,cur,e,h1,h2,h3,trivial⟩
   rw [reps_len x hm2] at e hnc
   injection e with e1 e2 e3
   subst e1; subst e2; subst e3
   have hfull:=Hd hu
   clear hfull hu ho2 hcp hmk
   have hu2:=ho.at.pre m (by rw [reps_len x hm2]; exact hm2)
   have htk : (reps x m un).take m = List.replicate m x:=by unfold reps; exact List.take_left' (by simp)
   rw [htk] at hu2
   obtain ⟨k,hk⟩ : ∃ k,k = ((List.replicate m x).take (un - m)).length:=⟨_,rfl⟩
   have hkk : k = min (un - m) m:=by rw [hk]; simp
   have hkr : (List.replicate m x).take (un - m) = List.replicate k x:=by rw [hkk,List.take_replicate]
   have hcp : ∀ W : World,OwnI w.heap.size W (.slice (some ⟨g,0,none⟩) un uc) (reps x m un) → IntsAt W (.slice (some ⟨g,0,none⟩) m uc) (List.replicate m x) → ∃ w2,(Builtin.copy_ #[22,22] 3 #[.slice (some ⟨g,m,none⟩) (un - m) (uc - m),.slice (some ⟨g,0,none⟩) m uc]).run Tryz.prog W = .ok (.int .i64 (k : Int)) w2 ∧ OwnI w.heap.size w2 (.slice (some ⟨g,0,none⟩) un uc) (reps x (m + k) un) ∧ Below w.heap.size W w2:=by
    intro W hW hW2
    obtain ⟨w2,a,b,c⟩:=run_copyMin m 3 (some ⟨g,m,none⟩) (un - m) (uc - m) hW hW2 rfl (by rw [reps_len x hm2]; omega) (by omega) (by rw [List.length_replicate]; omega) (by rw [valAt_row])
    rw [← hk] at a b
    rw [hkr,reps_splice x (by omega)] at b
    exact ⟨w2,a,b,c⟩
   obtain ⟨w3,hc3,ho3,hb3⟩:=hcp wo.drew ho hu2
   have hwr : IntKind.i64.wrap ((m : Int) + (k : Int)) = (m : Int) + k:=wrapK (by omega) (by omega)
   have hb4 : Below w.heap.size w w3:=hbr.drew.trans hb3
   have hk1 : 1 ≤ k:=by omega
   have hk2 : m + k ≤ un:=by omega
   have hsl1 : (0 ≤ (m : Int) ∧ (m : Int) ≤ (un : Int)):=⟨by omega,by omega⟩
   have hsl2 : (0 ≤ (m : Int) ∧ (m : Int) ≤ (uc : Int)):=⟨by omega,by omega⟩
   have hmc : ¬ uc = m:=by omega
   replace ho3:=Hd ho3
   replace ho:=Hd ho
   clear hcp hu2 htk hk hkr hkk
   go_upto_region 9 with fail
   refine wp_region_plan (fun _ => True) 9 [(0,true),(1,true),(2,true),(3,true),(4,true),(5,true),(6,true),(7,false),(8,true)] (by kernel_rfl) (by kernel_rfl) ?_
   have hS:=trivial
   refine pqY 38 hS ?_
   refine pqY 39 hS ?_
   refine pqY 40 hS ?_
   refine pqY 41 hS ?_
   refine pqY 42 hS ?_
   refine pqY 43 hS ?_
   refine pqY 44 hS ?_
   refine headC rfl (fun KK hK => ?_)
   -- CALL 7 slot (some 45)
   go_simp
   refine hK _ _ hS ?_
   clear hK KK
   refine pqY 46 hS ?_
   refine head0 ?_
   simp only [List.drop_succ_cons,List.drop_zero]
   go_wp2
   refine NoPanic.normal ?_
   go_wp2
   go_round
   case measure => simp [intOf]; omega
   case rel => exact ⟨m + k,by omega,hk2,by go_num,ho3.out,hb4⟩
  ·obtain rfl : m = n:=by omega
   rw [reps_full] at ho
   replace ho:=Hd ho
   go_wp2
   go_ret
   exact ⟨_,rfl,hbr,ho.out⟩
end Go.Proofs.YtncpnaoabkjegaaGreatDoor
namespace Go.Proofs.YtncpnaoabkjegaaGreatDoor
open Go.RowKit
set_option maxRecDepth 100000
/-- Plain numbers as ints. -/
def castI (l : List Nat) : List Int:=l.map fun (x : Nat) => (x : Int)
theorem castI_len (l : List Nat) : (castI l).length = l.length:=by simp [castI]
theorem castI_snoc (l : List Nat) (x : Nat) : castI (l ++ [x]) = castI l ++ [(x : Int)]:=by simp [castI]
theorem castI_get {l : List Nat} {i x : Nat} (h : l[i]? = some x) : (castI l).getD i 0 = (x : Int):=by simp [castI,List.getD,h]
theorem castI_reverse (l : List Nat) : castI l.reverse = (castI l).reverse:=by simp [castI]
theorem nodup_len : ∀ (n : Nat) (l : List Nat),l.Nodup → (∀ x ∈ l,x < n) → l.length ≤ n
 | 0,l,_,h => by
  cases l with
  | nil => exact Nat.le_refl _
  | cons a l => have:=h a List.mem_cons_self; omega
 | n + 1,l,hn,h => by
  have hsub:=nodup_len n (l.erase n) (hn.erase n) (fun x hx => by
   have h1:=h x (List.mem_of_mem_erase hx)
   have h2 : x ≠ n:=fun e => by subst e; exact (List.Nodup.not_mem_erase hn) hx
   omega)
  have : l.length ≤ (l.erase n).length + 1:=by
   by_cases hm : n ∈ l
   ·have:=List.length_erase_of_mem hm; omega
   ·rw [List.erase_of_not_mem hm]; omega
  omega
/-- The arrows from the least on, as plain numbers. -/
def srtN (l : List Int) : List Nat:=(srt l).map Int.toNat
theorem srt_mem (l : List Int) (x : Int) : x ∈ srt l ↔ x ∈ l:=by unfold srt; exact (List.mergeSort_perm l _).mem_iff
theorem srt_sorted (l : List Int) : (srt l).Pairwise (· ≤ ·):=by
 have:=List.pairwise_mergeSort (le:=fun (x y : Int) => decide (x ≤ y)) (fun a b c h1 h2 => by simp at *; omega) (fun a b => by simp; omega) l
 unfold srt
 exact this.imp (fun h => by simpa using h)
theorem srtN_sorted (l : List Int) (hp : ∀ x ∈ l,0 ≤ x) : (srtN l).Pairwise (· ≤ ·):=by
 unfold srtN
 rw [List.pairwise_map]
 refine (srt_sorted l).imp_of_mem fun {a b} ha hb h => ?_
 have:=hp a ((srt_mem l a).1 ha)
 omega
theorem srtN_mem (l : List Int) (t : Nat) : t ∈ srtN l ↔ t ∈ l.map Int.toNat:=by
 unfold srtN
 simp only [List.mem_map,srt_mem]
theorem srtN_len (l : List Int) : (srtN l).length = l.length:=by simp [srtN,srt_length]
theorem srtN_get (l : List Int) (hp : ∀ x ∈ l,0 ≤ x) (j : Nat) (hj : j < l.length) : (srt l).getD j 0 = ((srtN l).getD j 0 : Int):=by
 have hj' : j < (srt l).length:=by rw [srt_length]; exact hj
 have h0:=hp _ ((srt_mem l _).1 (List.getElem_mem hj'))
 simp only [srtN,List.getD_eq_getElem?_getD,List.getElem?_map,List.getElem?_eq_getElem hj',Option.map_some,Option.getD_some]
 omega
theorem tabI_neg1 (n : Nat) : tabI n (fun _ => -1) = List.replicate n (-1):=by
 unfold tabI; apply List.ext_getElem <;> simp
theorem rowsE (B : Nat) (w : World) : Rows B w (fun _ => none):=⟨fun _ _ h => (by cases h),fun _ _ _ _ h => (by cases h)⟩
/-- What first leaves. -/
def FirstPost (w : World) (adj : Nat → List Nat) (a b : Nat) (x : Value) (w' : World) : Prop :=
 (∃ u,IsFirst adj a b u ∧ OwnI w.heap.size w' x (castI u)) ∨ (¬ Goes adj a b ∧ x = .slice none 0 0)
/-- The search's memory. -/
structure FN (f : Names) (cv qv : Value) (n : Nat) (came : Nat → Int) (q : List Nat) : Prop where
 came : f (1,0) = some (rowI cv (tabI n came))
 queue : f (2,0) = some (rowI qv (castI q))
section
variable {B : Nat} {w : World} {f : Names} {cv qv : Value} {n : Nat} {came : Nat → Int} {q : List Nat}
theorem FN.congr {f' : Names} (h : FN f cv qv n came q) (e1 : f' (1,0) = f (1,0)) (e2 : f' (2,0) = f (2,0)) : FN f' cv qv n came q:=⟨e1.trans h.came,e2.trans h.queue⟩
/-- came[t] = v. -/
theorem FN.set (h : FN f cv qv n came q) (hr : Rows B w f) (t : Nat) (ht : t < n) (v : Int) : ∃ f',Rows B (w.setCell (valAt cv t) (.int .i64 v)) f' ∧ FN f' cv qv n (updN came t v) q ∧ ∀ i,i ≠ (1,0) → f' i = f i:=by
 have hs:=hr.setI h.came t (by rw [tabI_len]; exact ht) v
 rw [tabI_upd] at hs
 exact ⟨_,hs,⟨upd_same _ _ _,by rw [upd_ne _ _ (by simp)]; exact h.queue⟩,fun i hi => upd_ne _ _ hi⟩
/-- queue = append(queue, t). -/
theorem FN.push (h : FN f cv qv n came q) (hr : Rows B w f) {w1 : World} {qv' : Value} (t : Nat) (ho : OwnI B w1 qv' (castI q ++ [(t : Int)]))
 (hal : (roomOf qv' = roomOf qv ∧ w.grownBy w1 qv.ownBlock) ∨ (∃ k,qv'.ownBlock = some k ∧ w.heap.size ≤ k ∧ w.grownBy w1 none)) : ∃ f',Rows B w1 f' ∧ FN f' cv qv' n came (q ++ [t]) ∧ ∀ i,i ≠ (2,0) → f' i = f i:=by
 have hO:=hr.ownI h.queue
 have hg : w.grownBy w1 qv.ownBlock:=grown_via (hal.imp (·.2) (fun ⟨_,_,_,q⟩ => q))
 have hob : qv'.ownBlock = qv.ownBlock ∨ ∃ k,qv'.ownBlock = some k ∧ w.heap.size ≤ k:=by
  rcases hal with ⟨q,_⟩ | ⟨k,h1,h2,_⟩
  ·obtain ⟨a1,n1,c1,e1⟩:=hO.at.shape
   obtain ⟨a2,n2,c2,e2⟩:=ho.at.shape
   exact .inl (ownBlock_of_room e1 e2 q)
  ·exact .inr ⟨k,h1,h2⟩
 exact ⟨_,hr.grown (r':=rowI qv' (castI q ++ [(t : Int)])) h.queue hg ho hob,⟨by rw [upd_ne _ _ (by simp)]; exact h.came,by rw [upd_same,castI_snoc]⟩,fun i hi => upd_ne _ _ hi⟩
end
set_option maxHeartbeats 4000000 in
theorem first_any (na : Option Addr) (nc : Nat) (G : List (List Int)) (a b : Nat) (w : World) (h : ListsAt w (.slice na G.length nc) G) (hok : GraphOk G) (hn : G.length ≤ 8200) (ha : a < G.length) (hb : b < G.length) (hsz : ∀ k,k < G.length → (G.getD k []).length ≤ 17592186044416) :
 Calls Tryz.prog 190 #[.slice na G.length nc,.int .i64 a,.int .i64 b] w (Ret1 (FirstPost w (adjOf G) a b) w):=by
 have b0:=belowAlloc w (.cells #[.int .i64 (-1)] 3)
 have hI:=(OwnI.lit w.heap.size w (Nat.le_refl _) [-1] (by simp [maxLen]) #[.int .i64 (-1)] rfl 1 rfl).at
 have hRep:=repeat_any _ (-1) G.length _ hI (by omega)
 have hinit:=BBase.init (adjOf G) a
 replace hI:=Hd hI
 replace h:=Hd h
 replace hok:=Hd hok
 replace hsz:=Hd hsz
 replace hinit:=Hd hinit
 replace hRep:=Hd hRep
 go_enter Tryz.func190,Tryz.ntmps190
 go_wp2_with fail
 refine hRep.out.mono ?_
 rintro e w1 ⟨cv,rfl,b1,hcv⟩
 obtain ⟨w0,hw0⟩ : ∃ w0 : World,w0 = w.alloc (.cells #[.int .i64 (-1)] 3):=⟨_,rfl⟩
 rw [← hw0] at b0 b1 hcv
 rw [← tabI_neg1] at hcv
 clear hRep hI hw0
 have b01:=Below.step b0 b1
 have R1:=(rowsE w.heap.size w0).add (i:=(1,0)) (r':=rowI cv (tabI G.length fun _ => -1)) b1 (hcv.mono b0.size) (fun k hk => (hcv.lt k hk).1)
 have iA:=fun w' => hcv.at.idx a (by rw [tabI_len]; exact ha) w'
 have cA:=hcv.at.cellD a (by rw [tabI_len]; exact ha)
 have fA:=hcv.frz a (by rw [tabI_len]; exact ha)
 have kA:=(hcv.toV.blkB a (by rw [List.length_map,tabI_len]; exact ha)).2
 have R2:=R1.setI (upd_same _ _ _) a (by rw [tabI_len]; exact ha) (a : Int)
 rw [tabI_upd] at R2
 have b2 : Below w.heap.size w (w1.setCell (valAt cv a) (.int .i64 (a : Int))):=b01.setCell (Nat.le_trans b0.size kA) _
 generalize valAt cv a = ca at *
 generalize (tabI G.length fun _ => -1).getD a 0 = oa at cA
 obtain ⟨W2,hW2⟩ : ∃ W2 : World,W2 = w1.setCell ca (.int .i64 (a : Int)):=⟨_,rfl⟩
 rw [← hW2] at R2 b2
 replace R2:=Hd R2
 replace R1:=Hd R1
 replace hcv:=Hd hcv
 go_upto_region 3 with fail
 rw [← hW2]
 clear hW2 iA cA fA
 have hB2:=b2.size
 have hal2:=belowAlloc W2 (.cells #[.int .i64 (a : Int)] 3)
 have hq2:=OwnI.lit W2.heap.size W2 (Nat.le_refl _) [(a : Int)] (by simp [maxLen]) #[.int .i64 (a : Int)] rfl 1 rfl
 have R3:=R2.out.add (i:=(2,0)) (r':=rowI (.slice (some ⟨W2.heap.size,0,none⟩) 1 1) [(a : Int)]) hal2 (hq2.mono hB2) (fun k hk => (hq2.lt k hk).1)
 have b3:=b2.trans (hal2.mono hB2)
 obtain ⟨W3,hW3⟩ : ∃ W3 : World,W3 = W2.alloc (.cells #[.int .i64 (a : Int)] 3):=⟨_,rfl⟩
 rw [← hW3] at R3 b3
 obtain ⟨q2,hq2e⟩ : ∃ q2,q2 = W2.heap.size:=⟨_,rfl⟩
 rw [← hq2e] at R3
 have hF0 : FN (upd (upd (upd (fun _ => none) (1,0) (some (rowI cv (tabI G.length fun _ => -1)))) (1,0) (some (rowI cv (tabI G.length (updN (fun _ => (-1 : Int)) a (a : Int)))))) (2,0) (some (rowI (.slice (some ⟨q2,0,none⟩) 1 1) [(a : Int)]))) cv (.slice (some ⟨q2,0,none⟩) 1 1) G.length (updN (fun _ => (-1 : Int)) a (a : Int)) [a] :=
  ⟨by rw [upd_ne _ _ (by simp),upd_same],by rw [upd_same]; rfl⟩
 replace R3:=Hd R3
 replace hq2:=Hd hq2
 go_wp2_with fail
 rw [← hW3,← hq2e]
 clear hW3 hq2e R2 R1 hal2 hq2
 go_loopw [8,9] (fun qv iv wr => ∃ (i : Nat) (came : Nat → Int) (q : List Nat) (par dist : Nat → Nat) (f' : Names) (qw : Value),qw = qv ∧ iv = .int .i64 i ∧ i ≤ q.length ∧ Rows w.heap.size wr f' ∧ Below w.heap.size w wr ∧ FN f' cv qw G.length came q ∧ BOut (adjOf G) a came q par dist i ∧ ∀ x ∈ q,x < G.length) (fun _ iv _ => G.length + 1 - (intOf iv).toNat)
 case atStart => exact ⟨0,_,[a],_,_,_,_,rfl,rfl,by omega,R3.out,b3,hF0,hinit.out,fun x hx => by cases List.mem_singleton.1 hx; exact ha⟩
 case round =>
  obtain ⟨i,came,q,par,dist,f1,qv,rfl,rfl,hi,hr1,b1',h1,hO,hqn⟩:=hrel
  obtain ⟨wo,rfl⟩ : ∃ wo : World,wo = wr:=⟨_,rfl⟩
  have hql:=nodup_len G.length q hO.nodup hqn
  have hOQ:=hr1.ownI h1.queue
  have lQ:=hOQ.at.len
  rw [castI_len] at lQ
  have hOC:=hr1.ownI h1.came
  have iB:=fun w' => hOC.at.idx b (by rw [tabI_len]; exact hb) w'
  have cB:=hOC.at.cellD b (by rw [tabI_len]; exact hb)
  rw [tabI_get _ _ _ hb] at cB
  generalize valAt cv b = pb at *
  obtain ⟨cb,hcb⟩ : ∃ cb,came b = cb:=⟨_,rfl⟩
  rw [hcb] at cB
  by_cases hil : i < q.length
  ·by_cases hneg : cb < 0
   ·obtain ⟨v,hv⟩ : ∃ v,q[i]? = some v:=⟨_,List.getElem?_eq_getElem hil⟩
    have hvn:=hqn v (List.mem_of_getElem? hv)
    have iV:=fun w' => hOQ.at.idx i (by rw [castI_len]; exact hil) w'
    have cV:=hOQ.at.cellD i (by rw [castI_len]; exact hil)
    rw [castI_get hv] at cV
    obtain ⟨mv,iR,cR,hM⟩:=(h.out.below (b1' : Below w.heap.size w wo)).row v hvn
    have hgx:=hsz.out v hvn
    have hgp : ∀ x ∈ G.getD v [],0 ≤ x ∧ x < G.length:=hok.out v hvn
    have hadj : adjOf G v = (G.getD v []).map Int.toNat:=rfl
    generalize G.getD v [] = gx at *
    obtain ⟨ma,mn,mc,rfl⟩:=hM.shape
    generalize valAt qv i = qa at *
    generalize valAt (.slice na G.length nc) v = ra at *
    replace hcb:=Hd hcb
    replace hr1:=Hd hr1
    replace hOQ:=Hd hOQ
    replace hOC:=Hd hOC
    replace hM:=Hd hM
    replace hO:=Hd hO
    replace hqn:=Hd hqn
    replace hgp:=Hd hgp
    replace hadj:=Hd hadj
    replace hv:=Hd hv
    go_wp2_with fail
    refine (vals_any ma mn mc _).mono ?_
    rintro e w2 ⟨rfl,rfl⟩
    have hbv:=belowAlloc wo (.cells #[.slice ma mn mc] 22)
    clear iB cB iV cV iR cR
    go_wp2_with fail
    refine (sorted_any wo.heap.size (.slice ma mn mc) gx hgx _ (by simp) (by simp) (hM.out.below hbv)).mono ?_
    rintro e w3 ⟨lv,rfl,b3',hL⟩
    have b4 : Below wo.heap.size wo w3:=hbv.trans (b3'.mono hbv.size)
    have hBo : w.heap.size ≤ wo.heap.size:=b1'.size
    have R4:=hr1.out.add (i:=(3,0)) (r':=rowI lv (srt gx)) b4 (hL.mono (Nat.le_trans hBo hbv.size)) (fun k hk => Nat.le_trans hbv.size (hL.lt k hk).1)
    have h4 : FN (upd f1 (3,0) (some (rowI lv (srt gx)))) cv qv G.length came q:=h1.congr (upd_ne _ _ (by simp)) (upd_ne _ _ (by simp))
    have e4 : upd f1 (3,0) (some (rowI lv (srt gx))) (3,0) = some (rowI lv (srt gx)):=upd_same _ _ _
    have b5:=b1'.trans (b4.mono hBo)
    have hIn:=hO.out.enter hv.out (l:=(srtN gx).drop 0) (fun t => by rw [List.drop_zero,hadj.out]; exact srtN_mem gx t) (by rw [List.drop_zero]; exact srtN_sorted gx fun x hx => (hgp.out x hx).1)
    have lL:=hL.at.len
    have hsl : (srt gx).length = gx.length:=srt_length gx
    generalize upd f1 (3,0) (some (rowI lv (srt gx))) = f4 at *
    replace R4:=Hd R4
    replace hIn:=Hd hIn
    replace hL:=Hd hL
    replace e4:=Hd e4
    go_wp2_with fail
    clear lL lQ
    go_loopw [8,49] (fun qv jv wr => ∃ (j : Nat) (came : Nat → Int) (q : List Nat) (par dist : Nat → Nat) (f' : Names) (qw : Value),qw = qv ∧ jv = .int .i64 j ∧ j ≤ gx.length ∧ Rows w.heap.size wr f' ∧ Below w.heap.size w wr ∧ FN f' cv qw G.length came q ∧ f' (3,0) = some (rowI lv (srt gx)) ∧ BIn (adjOf G) a came q par dist i v ((srtN gx).drop j) ∧ ∀ x ∈ q,x < G.length) (fun _ jv _ => gx.length - (intOf jv).toNat)
    case atStart => exact ⟨0,came,q,par,dist,f4,qv,rfl,rfl,by omega,R4.out,b5,h4,e4.out,hIn.out,hqn.out⟩
    case round =>
     clear hIn R4 e4 h4 b5 h1 hi hil hO hqn hv hOQ hOC hneg hcb
     obtain ⟨j,came,q,par,dist,f4,qv,rfl,rfl,hj,hr4,b5,h4,e4,hIn,hqn⟩:=hrel
     obtain ⟨wo,rfl⟩ : ∃ wo : World,wo = wr:=⟨_,rfl⟩
     have hOL:=hr4.ownI e4
     have lL:=hOL.at.len
     rw [hsl] at lL
     by_cases hjl : j < gx.length
     ·have hjs : j < (srtN gx).length:=by rw [srtN_len]; exact hjl
      obtain ⟨t,ht⟩ : ∃ t,(srtN gx)[j]? = some t:=⟨_,List.getElem?_eq_getElem hjs⟩
      have htd : (srtN gx).getD j 0 = t:=by simp [List.getD,ht]
      have hdr : (srtN gx).drop j = t :: (srtN gx).drop (j + 1):=by
       rw [List.drop_eq_getElem_cons hjs]
       rw [List.getElem?_eq_getElem hjs] at ht
       injection ht with ht
       rw [ht]
      have htn : t < G.length:=by
       have hm:=(srtN_mem gx t).1 (List.mem_of_getElem? ht)
       obtain ⟨x,hx,rfl⟩:=List.mem_map.1 hm
       have:=hgp.out x hx
       omega
      have iT:=fun w' => hOL.at.idx j (by rw [hsl]; exact hjl) w'
      have cT:=hOL.at.cellD j (by rw [hsl]; exact hjl)
      rw [srtN_get gx (fun x hx => (hgp.out x hx).1) j hjl,htd] at cT
      rw [hdr] at hIn
      have hOC:=hr4.ownI h4.came
      have iC:=fun w' => hOC.at.idx t (by rw [tabI_len]; exact htn) w'
      have cC:=hOC.at.cellD t (by rw [tabI_len]; exact htn)
      rw [tabI_get _ _ _ htn] at cC
      have fC:=hOC.frz t (by rw [tabI_len]; exact htn)
      have kC:=(hOC.toV.blkB t (by rw [List.length_map,tabI_len]; exact htn)).2
      obtain ⟨f5,hr5,h5,k5⟩:=h4.set hr4 t htn (v : Int)
      have e5 : f5 (3,0) = some (rowI lv (srt gx)):=(k5 _ (by simp)).trans e4
      have b6 : Below w.heap.size w (wo.setCell (valAt cv t) (.int .i64 (v : Int))):=b5.setCell kC _
      generalize valAt lv j = la at *
      generalize valAt cv t = ta at *
      obtain ⟨ct,hct⟩ : ∃ ct,came t = ct:=⟨_,rfl⟩
      rw [hct] at cC
      by_cases htc : ct < 0
      ·have hadd:=hIn.add (by rw [hct]; exact htc)
       have hqn2 : ∀ x ∈ q ++ [t],x < G.length:=fun x hx => by
        rcases List.mem_append.1 hx with hx | hx
        ·exact hqn x hx
        ·cases List.mem_singleton.1 hx; exact htn
       have hql2:=nodup_len G.length q hIn.base.nodup hqn
       replace hadd:=Hd hadd
       replace hqn2:=Hd hqn2
       replace hIn:=Hd hIn
       replace hqn:=Hd hqn
       replace hr4:=Hd hr4
       replace hr5:=Hd hr5
       replace hOC:=Hd hOC
       replace hOL:=Hd hOL
       replace hct:=Hd hct
       replace hdr:=Hd hdr
       replace htd:=Hd htd
       replace ht:=Hd ht
       replace k5:=Hd k5
       replace e4:=Hd e4
       replace e5:=Hd e5
       go_upto_region 13 with fail
       obtain ⟨W5,hW5⟩ : ∃ W5 : World,W5 = wo.setCell ta (.int .i64 (v : Int)):=⟨_,rfl⟩
       rw [← hW5]
       rw [← hW5] at hr5 b6
       clear hW5 iT cT iC cC fC lL
       have hOQ5:=hr5.out.ownI h5.queue
       have hB5 : w.heap.size ≤ W5.heap.size:=b6.size
       go_wp2_with (at_builtin; refine wpl_app1 rfl _ _ rfl w.heap.size qv (castI q) t hOQ5 rfl rfl (by rw [castI_len]; omega) hB5 ?_)
       intro qv' w7 ho7 b7 hal7
       obtain ⟨f7,hr7,h7,k7⟩:=h5.push hr5.out t ho7 hal7
       replace hr7:=Hd hr7
       replace ho7:=Hd ho7
       replace k7:=Hd k7
       clear hal7
       go_wp2
       go_roundw
       case measure => simp [intOf]; omega
       case rel => exact ⟨j + 1,_,_,_,_,f7,qv',rfl,by go_num,by omega,hr7.out,b6.trans b7,h7,(k7.out _ (by simp)).trans e5.out,hadd.out,hqn2.out⟩
      ·have hold:=hIn.old (by rw [hct]; omega)
       replace hold:=Hd hold
       replace hIn:=Hd hIn
       replace hqn:=Hd hqn
       replace hr4:=Hd hr4
       replace hr5:=Hd hr5
       replace hOC:=Hd hOC
       replace hOL:=Hd hOL
       replace hct:=Hd hct
       replace hdr:=Hd hdr
       replace htd:=Hd htd
       replace ht:=Hd ht
       replace k5:=Hd k5
       replace e4:=Hd e4
       replace e5:=Hd e5
       go_wp2
       go_roundw
       case measure => simp [intOf]; omega
       case rel => exact ⟨j + 1,came,q,par,dist,f4,qv,rfl,by go_num,by omega,hr4.out,b5,h4,e4.out,hold.out,hqn.out⟩
     ·obtain rfl : j = gx.length:=by omega
      rw [List.drop_eq_nil_of_le (by rw [srtN_len]; exact Nat.le_refl _)] at hIn
      have hOut:=hIn.leave
      have hil:=get_of hIn.cur
      have hql2:=nodup_len G.length q hIn.base.nodup hqn
      replace hOut:=Hd hOut
      replace hIn:=Hd hIn
      replace hqn:=Hd hqn
      replace hr4:=Hd hr4
      replace hOL:=Hd hOL
      replace e4:=Hd e4
      go_wp2
      go_roundw
      case measure => simp [intOf]; omega
      case rel => exact ⟨i + 1,came,q,par,dist,f4,qv,rfl,by go_num,by omega,hr4.out,b5,h4,hOut.out,hqn.out⟩
   ·have hcb0 : ¬ came b < 0:=by rw [hcb]; exact hneg
    have hbq:=(hO.cameIff b).1 (by omega)
    obtain ⟨k0,hk0⟩:=List.mem_iff_getElem?.1 hbq
    have hlit:=OwnI.lit wo.heap.size wo (Nat.le_refl _) [(b : Int)] (by simp [maxLen]) #[.int .i64 (b : Int)] rfl 1 rfl
    have halw:=belowAlloc wo (.cells #[.int .i64 (b : Int)] 3)
    have hBo : w.heap.size ≤ wo.heap.size:=b1'.size
    have R8:=hr1.add (i:=(4,0)) (r':=rowI (.slice (some ⟨wo.heap.size,0,none⟩) 1 1) (castI [b].reverse)) halw (hlit.mono hBo) (fun k hk => (hlit.lt k hk).1)
    have b8:=b1'.trans (halw.mono hBo)
    have hcame8 : (upd f1 (4,0) (some (rowI (.slice (some ⟨wo.heap.size,0,none⟩) 1 1) (castI [b].reverse)))) (1,0) = some (rowI cv (tabI G.length came)):=(upd_ne _ _ (by simp)).trans h1.came
    have hway8:=upd_same f1 (4,0) (some (rowI (.slice (some ⟨wo.heap.size,0,none⟩) 1 1) (castI [b].reverse)))
    generalize upd f1 (4,0) (some (rowI (.slice (some ⟨wo.heap.size,0,none⟩) 1 1) (castI [b].reverse))) = f8 at *
    obtain ⟨W8,hW8⟩ : ∃ W8 : World,W8 = wo.alloc (.cells #[.int .i64 (b : Int)] 3):=⟨_,rfl⟩
    obtain ⟨s8,hs8⟩ : ∃ s8,s8 = wo.heap.size:=⟨_,rfl⟩
    rw [← hW8] at R8 b8
    rw [← hs8] at hway8
    have htree : Tree came q (adjOf G) b b [b]:=.one b hbq
    replace hcb:=Hd hcb
    replace hr1:=Hd hr1
    replace hOQ:=Hd hOQ
    replace hOC:=Hd hOC
    replace hO:=Hd hO
    replace hqn:=Hd hqn
    replace hlit:=Hd hlit
    replace R8:=Hd R8
    replace hk0:=Hd hk0
    replace hcame8:=Hd hcame8
    replace hway8:=Hd hway8
    replace htree:=Hd htree
    clear halw
    go_wp2_with fail
    rw [← hW8,← hs8]
    clear hW8 hs8 iB cB lQ
    go_loopg [13,14] k0 (fun k wv vv wr => ∃ (x : Nat) (u : List Nat) (f' : Names) (ww : Value),ww = wv ∧ vv = .int .i64 x ∧ q[k]? = some x ∧ Tree came q (adjOf G) x b u ∧ Rows w.heap.size wr f' ∧ Below w.heap.size w wr ∧ f' (1,0) = some (rowI cv (tabI G.length came)) ∧ f' (4,0) = some (rowI ww (castI u.reverse)) ∧ u.length ≤ G.length + 1 - k)
    case atStart => exact ⟨b,[b],f8,_,rfl,rfl,hk0.out,htree.out,R8.out,b8,hcame8.out,hway8.out,by have:=get_of hk0.out; simp only [List.length_cons,List.length_nil]; omega⟩
    case round =>
     clear R8 b8 hcame8 hway8 htree hk0
     obtain ⟨x,u,f9,wv,rfl,rfl,hk,hT,hr9,b9,hc9,hw9,hul⟩:=hrel
     obtain ⟨wo,rfl⟩ : ∃ wo : World,wo = wr:=⟨_,rfl⟩
     obtain ⟨k,rfl⟩ : ∃ k : Nat,k = gk:=⟨_,rfl⟩
     have hxn:=hqn.out x (List.mem_of_getElem? hk)
     have hkl:=get_of hk
     by_cases hxa : x = a
     ·subst hxa
      have hfirst:=hO.out.first hT
      have hOW:=hr9.ownI hw9
      have hrev:=reverse_own w.heap.size wv (castI u.reverse) wo hOW (by rw [castI_len,List.length_reverse]; omega)
      have hrr : (castI u.reverse).reverse = castI u:=by rw [castI_reverse,List.reverse_reverse]
      rw [hrr] at hrev
      replace hrev:=Hd hrev
      replace hfirst:=Hd hfirst
      replace hT:=Hd hT
      replace hr9:=Hd hr9
      replace hOW:=Hd hOW
      replace hc9:=Hd hc9
      replace hw9:=Hd hw9
      replace hk:=Hd hk
      replace hrr:=Hd hrr
      go_wp2_with fail
      refine hrev.out.mono ?_
      rintro e w10 ⟨rfl,ho10,b10⟩
      replace ho10:=Hd ho10
      go_wp2
      go_ret
      exact ⟨_,rfl,b9.trans b10,.inl ⟨u,hfirst.out,ho10.out⟩⟩
     ·have hk1 : 0 < k:=by
       by_cases e : 0 < k
       ·exact e
       ·obtain rfl : k = 0:=by omega
        have:=hO.out.hd
        rw [hk] at this
        injection this with this
        exact absurd this hxa
      obtain ⟨p1,p2,p,p3,p4,p5,p6⟩:=hO.out.parLt k x hk1 hk
      have hT2:=Tree.cons _ _ p3 hk hk1 p4 hT
      have hpn:=hqn.out p (List.mem_of_getElem? p3)
      have hne : ((x : Int) != (a : Int)) = true:=by rw [bne_iff_ne]; omega
      have hOC9:=hr9.ownI hc9
      have iX:=fun w' => hOC9.at.idx x (by rw [tabI_len]; exact hxn) w'
      have cX:=hOC9.at.cellD x (by rw [tabI_len]; exact hxn)
      rw [tabI_get _ _ _ hxn,p4] at cX
      have hOW:=hr9.ownI hw9
      have hB9 : w.heap.size ≤ wo.heap.size:=b9.size
      have hlu : (castI u.reverse).length < 4398046511104:=by rw [castI_len,List.length_reverse]; omega
      have hgrow:=fun (w' : World) (wv' : Value) (ho : OwnI w.heap.size w' wv' (castI u.reverse ++ [(p : Int)])) (hal : (roomOf wv' = roomOf wv ∧ wo.grownBy w' wv.ownBlock) ∨ (∃ k,wv'.ownBlock = some k ∧ wo.heap.size ≤ k ∧ wo.grownBy w' none)) => show ∃ f',Rows w.heap.size w' f' ∧ f' (1,0) = some (rowI cv (tabI G.length came)) ∧ f' (4,0) = some (rowI wv' (castI (p :: u).reverse)) from by
       have hg : wo.grownBy w' wv.ownBlock:=grown_via (hal.imp (·.2) (fun ⟨_,_,_,q⟩ => q))
       have hob : wv'.ownBlock = wv.ownBlock ∨ ∃ k,wv'.ownBlock = some k ∧ wo.heap.size ≤ k:=by
        rcases hal with ⟨q,_⟩ | ⟨k,h1,h2,_⟩
        ·obtain ⟨a1,n1,c1,e1⟩:=hOW.at.shape
         obtain ⟨a2,n2,c2,e2⟩:=ho.at.shape
         exact .inl (ownBlock_of_room e1 e2 q)
        ·exact .inr ⟨k,h1,h2⟩
       exact ⟨_,hr9.grown (r':=rowI wv' (castI u.reverse ++ [(p : Int)])) hw9 hg ho hob,by rw [upd_ne _ _ (by simp)]; exact hc9,by rw [upd_same,List.reverse_cons,castI_snoc]⟩
      generalize valAt cv x = xa at *
      replace hgrow:=Hd hgrow
      replace hT:=Hd hT
      replace hT2:=Hd hT2
      replace hr9:=Hd hr9
      replace hOC9:=Hd hOC9
      replace hc9:=Hd hc9
      replace hw9:=Hd hw9
      replace hk:=Hd hk
      replace p3:=Hd p3
      replace p4:=Hd p4
      replace p6:=Hd p6
      go_wp2_with (at_builtin; refine wpl_app1 rfl _ _ rfl w.heap.size wv (castI u.reverse) p hOW rfl rfl hlu hB9 ?_)
      intro wv' w11 ho11 b11 hal11
      obtain ⟨f11,hr11,hc11,hw11⟩:=hgrow.out w11 wv' ho11 hal11
      replace ho11:=Hd ho11
      replace hr11:=Hd hr11
      replace hc11:=Hd hc11
      replace hw11:=Hd hw11
      clear hal11
      go_wp2
      go_roundg (par k)
      case measure => exact p2
      case rel => exact ⟨p,p :: u,f11,wv',rfl,rfl,p3.out,hT2.out,hr11.out,b9.trans b11,hc11.out,hw11.out,by simp only [List.length_cons]; omega⟩
  ·by_cases hneg : cb < 0
   ·have hnone:=hO.none (by omega) (by rw [hcb]; exact hneg)
    replace hnone:=Hd hnone
    replace hcb:=Hd hcb
    replace hr1:=Hd hr1
    replace hOQ:=Hd hOQ
    replace hOC:=Hd hOC
    replace hO:=Hd hO
    replace hqn:=Hd hqn
    go_wp2
    go_ret
    exact ⟨_,rfl,b1',.inr ⟨hnone.out,rfl⟩⟩
   ·have hcb0 : ¬ came b < 0:=by rw [hcb]; exact hneg
    have hbq:=(hO.cameIff b).1 (by omega)
    obtain ⟨k0,hk0⟩:=List.mem_iff_getElem?.1 hbq
    have hlit:=OwnI.lit wo.heap.size wo (Nat.le_refl _) [(b : Int)] (by simp [maxLen]) #[.int .i64 (b : Int)] rfl 1 rfl
    have halw:=belowAlloc wo (.cells #[.int .i64 (b : Int)] 3)
    have hBo : w.heap.size ≤ wo.heap.size:=b1'.size
    have R8:=hr1.add (i:=(4,0)) (r':=rowI (.slice (some ⟨wo.heap.size,0,none⟩) 1 1) (castI [b].reverse)) halw (hlit.mono hBo) (fun k hk => (hlit.lt k hk).1)
    have b8:=b1'.trans (halw.mono hBo)
    have hcame8 : (upd f1 (4,0) (some (rowI (.slice (some ⟨wo.heap.size,0,none⟩) 1 1) (castI [b].reverse)))) (1,0) = some (rowI cv (tabI G.length came)):=(upd_ne _ _ (by simp)).trans h1.came
    have hway8:=upd_same f1 (4,0) (some (rowI (.slice (some ⟨wo.heap.size,0,none⟩) 1 1) (castI [b].reverse)))
    generalize upd f1 (4,0) (some (rowI (.slice (some ⟨wo.heap.size,0,none⟩) 1 1) (castI [b].reverse))) = f8 at *
    obtain ⟨W8,hW8⟩ : ∃ W8 : World,W8 = wo.alloc (.cells #[.int .i64 (b : Int)] 3):=⟨_,rfl⟩
    obtain ⟨s8,hs8⟩ : ∃ s8,s8 = wo.heap.size:=⟨_,rfl⟩
    rw [← hW8] at R8 b8
    rw [← hs8] at hway8
    have htree : Tree came q (adjOf G) b b [b]:=.one b hbq
    replace hcb:=Hd hcb
    replace hr1:=Hd hr1
    replace hOQ:=Hd hOQ
    replace hOC:=Hd hOC
    replace hO:=Hd hO
    replace hqn:=Hd hqn
    replace hlit:=Hd hlit
    replace R8:=Hd R8
    replace hk0:=Hd hk0
    replace hcame8:=Hd hcame8
    replace hway8:=Hd hway8
    replace htree:=Hd htree
    clear halw
    go_wp2_with fail
    rw [← hW8,← hs8]
    clear hW8 hs8 iB cB lQ
    go_loopg [13,14] k0 (fun k wv vv wr => ∃ (x : Nat) (u : List Nat) (f' : Names) (ww : Value),ww = wv ∧ vv = .int .i64 x ∧ q[k]? = some x ∧ Tree came q (adjOf G) x b u ∧ Rows w.heap.size wr f' ∧ Below w.heap.size w wr ∧ f' (1,0) = some (rowI cv (tabI G.length came)) ∧ f' (4,0) = some (rowI ww (castI u.reverse)) ∧ u.length ≤ G.length + 1 - k)
    case atStart => exact ⟨b,[b],f8,_,rfl,rfl,hk0.out,htree.out,R8.out,b8,hcame8.out,hway8.out,by have:=get_of hk0.out; simp only [List.length_cons,List.length_nil]; omega⟩
    case round =>
     clear R8 b8 hcame8 hway8 htree hk0
     obtain ⟨x,u,f9,wv,rfl,rfl,hk,hT,hr9,b9,hc9,hw9,hul⟩:=hrel
     obtain ⟨wo,rfl⟩ : ∃ wo : World,wo = wr:=⟨_,rfl⟩
     obtain ⟨k,rfl⟩ : ∃ k : Nat,k = gk:=⟨_,rfl⟩
     have hxn:=hqn.out x (List.mem_of_getElem? hk)
     have hkl:=get_of hk
     by_cases hxa : x = a
     ·subst hxa
      have hfirst:=hO.out.first hT
      have hOW:=hr9.ownI hw9
      have hrev:=reverse_own w.heap.size wv (castI u.reverse) wo hOW (by rw [castI_len,List.length_reverse]; omega)
      have hrr : (castI u.reverse).reverse = castI u:=by rw [castI_reverse,List.reverse_reverse]
      rw [hrr] at hrev
      replace hrev:=Hd hrev
      replace hfirst:=Hd hfirst
      replace hT:=Hd hT
      replace hr9:=Hd hr9
      replace hOW:=Hd hOW
      replace hc9:=Hd hc9
      replace hw9:=Hd hw9
      replace hk:=Hd hk
      replace hrr:=Hd hrr
      go_wp2_with fail
      refine hrev.out.mono ?_
      rintro e w10 ⟨rfl,ho10,b10⟩
      replace ho10:=Hd ho10
      go_wp2
      go_ret
      exact ⟨_,rfl,b9.trans b10,.inl ⟨u,hfirst.out,ho10.out⟩⟩
     ·have hk1 : 0 < k:=by
       by_cases e : 0 < k
       ·exact e
       ·obtain rfl : k = 0:=by omega
        have:=hO.out.hd
        rw [hk] at this
        injection this with this
        exact absurd this hxa
      obtain ⟨p1,p2,p,p3,p4,p5,p6⟩:=hO.out.parLt k x hk1 hk
      have hT2:=Tree.cons _ _ p3 hk hk1 p4 hT
      have hpn:=hqn.out p (List.mem_of_getElem? p3)
      have hne : ((x : Int) != (a : Int)) = true:=by rw [bne_iff_ne]; omega
      have hOC9:=hr9.ownI hc9
      have iX:=fun w' => hOC9.at.idx x (by rw [tabI_len]; exact hxn) w'
      have cX:=hOC9.at.cellD x (by rw [tabI_len]; exact hxn)
      rw [tabI_get _ _ _ hxn,p4] at cX
      have hOW:=hr9.ownI hw9
      have hB9 : w.heap.size ≤ wo.heap.size:=b9.size
      have hlu : (castI u.reverse).length < 4398046511104:=by rw [castI_len,List.length_reverse]; omega
      have hgrow:=fun (w' : World) (wv' : Value) (ho : OwnI w.heap.size w' wv' (castI u.reverse ++ [(p : Int)])) (hal : (roomOf wv' = roomOf wv ∧ wo.grownBy w' wv.ownBlock) ∨ (∃ k,wv'.ownBlock = some k ∧ wo.heap.size ≤ k ∧ wo.grownBy w' none)) => show ∃ f',Rows w.heap.size w' f' ∧ f' (1,0) = some (rowI cv (tabI G.length came)) ∧ f' (4,0) = some (rowI wv' (castI (p :: u).reverse)) from by
       have hg : wo.grownBy w' wv.ownBlock:=grown_via (hal.imp (·.2) (fun ⟨_,_,_,q⟩ => q))
       have hob : wv'.ownBlock = wv.ownBlock ∨ ∃ k,wv'.ownBlock = some k ∧ wo.heap.size ≤ k:=by
        rcases hal with ⟨q,_⟩ | ⟨k,h1,h2,_⟩
        ·obtain ⟨a1,n1,c1,e1⟩:=hOW.at.shape
         obtain ⟨a2,n2,c2,e2⟩:=ho.at.shape
         exact .inl (ownBlock_of_room e1 e2 q)
        ·exact .inr ⟨k,h1,h2⟩
       exact ⟨_,hr9.grown (r':=rowI wv' (castI u.reverse ++ [(p : Int)])) hw9 hg ho hob,by rw [upd_ne _ _ (by simp)]; exact hc9,by rw [upd_same,List.reverse_cons,castI_snoc]⟩
      generalize valAt cv x = xa at *
      replace hgrow:=Hd hgrow
      replace hT:=Hd hT
      replace hT2:=Hd hT2
      replace hr9:=Hd hr9
      replace hOC9:=Hd hOC9
      replace hc9:=Hd hc9
      replace hw9:=Hd hw9
      replace hk:=Hd hk
      replace p3:=Hd p3
      replace p4:=Hd p4
      replace p6:=Hd p6
      go_wp2_with (at_builtin; refine wpl_app1 rfl _ _ rfl w.heap.size wv (castI u.reverse) p hOW rfl rfl hlu hB9 ?_)
      intro wv' w11 ho11 b11 hal11
      obtain ⟨f11,hr11,hc11,hw11⟩:=hgrow.out w11 wv' ho11 hal11
      replace ho11:=Hd ho11
      replace hr11:=Hd hr11
      replace hc11:=Hd hc11
      replace hw11:=Hd hw11
      clear hal11
      go_wp2
      go_roundg (par k)
      case measure => exact p2
      case rel => exact ⟨p,p :: u,f11,wv',rfl,rfl,p3.out,hT2.out,hr11.out,b9.trans b11,hc11.out,hw11.out,by simp only [List.length_cons]; omega⟩
theorem lenArr (g K c : Nat) (w : World) : (Builtin.len_ #[167] 3 #[.slice (some ⟨g,0,none⟩) K c]).run Tryz.prog w = .ok (.int .i64 K) w:=by
 rw [run_len_slice _ _ _ _ _ _ (by kernel_rfl)]; rfl
theorem idxArr (g K c s : Nat) (hs : s < K) (w : World) : (Instr.indexAt 167 (.slice (some ⟨g,0,none⟩) K c) (.int .i64 s)).run Tryz.prog w = .ok (.pointer (some ⟨g,s * 2,none⟩)) w:=by
 have e : Tryz.prog.elem 167 = 169:=by kernel_rfl
 have hz : ∀ w : World,(sizeOf 169).run Tryz.prog w = .ok 2 w:=fun w => by kernel_rfl
 rw [run_indexAt_slice _ _ _ _ _ _ _ (by rw [e]; kernel_rfl),if_pos (by omega),e,hz]
 simp only [Result.andThen,Addr.add,Int.toNat_natCast]
 by_cases e : s * 2 = 0
 ·rw [if_pos e]
  simp only [e]
 ·rw [if_neg e]
  simp
/-- While the lists are written. -/
def pairTo (K N : Nat) (T : List Int) (k p : Nat) : List Int:=if p < k then castI (pairL K N T p) else []
theorem pairTo_zero (K N : Nat) (T : List Int) : pairTo K N T 0 = fun _ => []:=by funext p; unfold pairTo; rw [if_neg (by omega)]
theorem pairTo_step (K N : Nat) (T : List Int) (k : Nat) : updN (pairTo K N T k) k (castI (pairL K N T k)) = pairTo K N T (k + 1):=by
 funext p
 unfold pairTo
 by_cases e : p = k
 ·subst e; rw [updN_same,if_pos (by omega)]
 ·rw [updN_other _ _ _ e]
  by_cases h : p < k
  ·rw [if_pos h,if_pos (by omega)]
  ·rw [if_neg h,if_neg (by omega)]
/-- The graph of pairs. -/
def pairG (K N : Nat) (T : List Int) : List (List Int):=rowsOf (N * N) fun p => castI (pairL K N T p)
theorem cell_grown {w w' : World} {row : Option Nat} {p : Addr} {v : Value} (hg : w.grownBy w' row) (h : w.cell? p = some v) (hne : row ≠ some p.block) : w'.cell? p = some v :=
 (World.cell?_of_block (hg.block _ (World.block_lt_of_cell? _ _ h) (fun e => hne e.symm))).trans h
theorem Rows.monoB {B B' : Nat} {w : World} {f : Names} (h : Rows B w f) (hB : B' ≤ B) : Rows B' w f :=
 ⟨fun i r hi => by
   have ho:=h.1 i r hi
   refine ⟨ho.1,?_⟩
   rcases ho.2 with h2 | ⟨g,cap,cur,e,hb,r⟩
   ·exact .inl h2
   ·exact .inr ⟨g,cap,cur,e,Nat.le_trans hB hb,r⟩,h.2⟩
set_option maxHeartbeats 1000000 in
theorem pgraph_ok (r : Nat → Addr) (K R : Nat) (va : Option Addr) (vn vc : Nat) (T : List Int) (w : World) (hg : Glob r w) (h : IntsAt w (.slice va vn vc) T) (hr : RuleOk K R T) (hl : T.length ≤ 256) :
 Calls Tryz.prog 50 #[.agg #[.int .i64 K,.int .i64 R,.slice va vn vc]] w (Ret2 (fun x y w' => y = .nilIface ∧ ∃ f vals,Rows w.heap.size w' f ∧ WN f x vals (pw K (2 * wkR R) * pw K (2 * wkR R)) (fun p => castI (pairL K (pw K (2 * wkR R)) (wkT K R T) p))) w):=by
 have b0:=belowAlloc w (.cells #[.int .i64 K,.int .i64 R,.slice va vn vc] 24)
 have q : Box3 (w.alloc (.cells #[.int .i64 K,.int .i64 R,.slice va vn vc] 24)) w.heap.size (.int .i64 K) (.int .i64 R) (.slice va vn vc):=by simp [Box3,go_sem]
 have hk1:=hr.k1
 have hk4:=hr.k4
 have hokW:=wk_ok hr
 have hlW:=wk_small hr hl
 have hRW:=wk_pos R
 have hN81:=nodes_le hokW hRW hlW
 obtain ⟨hdiv,hlen⟩:=hokW.half
 have hN1:=pw_pos (K:=K) (2 * wkR R) hk1
 have hwork:=fun (w' : World) (hgl : Glob r w') (hT : IntsAt w' (.slice va vn vc) T) => working_ok r K R va vn vc T w' hgl hT hr hl
 have harr:=fun (a : Option Addr) (n c : Nat) (w' : World) (hgl : Glob r w') (hT : IntsAt w' (.slice a n c) (wkT K R T)) => arrows_any r K (wkR R) a n c (wkT K R T) w' hgl hT hokW hlW
 rw [hdiv] at harr
 generalize pw K (2 * wkR R) = N at *
 generalize wkT K R T = T' at *
 generalize wkR R = R' at *
 replace hwork:=Hd hwork
 replace harr:=Hd harr
 replace hg:=Hd (hg.below b0)
 replace h:=Hd (h.below b0)
 replace hokW:=Hd hokW
 replace hr:=Hd hr
 replace hdiv:=Hd hdiv
 replace hlen:=Hd hlen
 go_enter Tryz.func50,Tryz.ntmps50
 go_wp2_with fail
 refine (hwork.out _ hg.out h.out).mono ?_
 rintro e w1 ⟨x,y,rfl,b1,rfl,a,n,c,rfl,hT1⟩
 have b01:=Below.step b0 b1
 have ba:=belowAlloc w1 (.cells #[.int .i64 K,.int .i64 R',.slice a n c] 24)
 have q1 : Box3 (w1.alloc (.cells #[.int .i64 K,.int .i64 R',.slice a n c] 24)) w1.heap.size (.int .i64 K) (.int .i64 R') (.slice a n c):=by simp [Box3,go_sem]
 have b02:=Below.step b01 ba
 have b12:=Below.step b1 ba
 have hT2:=hT1.below ba
 clear q
 replace hT1:=Hd hT1
 replace hT2:=Hd hT2
 go_wp2_with fail
 refine (harr.out a n c _ (hg.out.below b12) hT2.out).mono ?_
 rintro e w3 ⟨lv,rfl,b3,hA⟩
 have b03:=Below.step b02 b3
 clear q1
 obtain ⟨vs,hvs,hvl,hrows⟩:=hA
 obtain ⟨la,ln,lc,rfl⟩:=hvs.shape
 have ll:=fun w' => hvs.len oneArrows 3 w'
 rw [hvl] at ll
 have hNN : (N : Int) * (N : Int) = ((N * N : Nat) : Int):=by simp
 have hM6 : N * N ≤ 6561:=Nat.mul_le_mul hN81 hN81
 have hNz1 : ¬ (N : Int) = 0:=by omega
 have hNz2 : ((N : Int) == 0) = false:=by rw [beq_eq_false_iff_ne]; omega
 have hNz3 : (0 : Int) < N:=by omega
 have hNz4 : ¬ N = 0:=by omega
 obtain ⟨M,hM⟩ : ∃ M,N * N = M:=⟨_,rfl⟩
 rw [hM] at hNN hM6
 have hwM : IntKind.i64.wrap (M : Int) = M:=wrapK (by omega) (by omega)
 obtain ⟨ov,w4,mk,ho,hb4⟩:=run_makeW oneLists (M : Int) M w3 rfl (by omega)
 obtain ⟨f1,hr1,h1⟩:=WN.made M hb4 (Nat.le_refl _) ho
 obtain ⟨oa,on,oc,rfl⟩:=ho.shape
 have lo:=fun w' => (ho.at).len oneLists 3 w'
 rw [List.length_replicate] at lo
 rw [← pairTo_zero K N T'] at h1
 replace hvs:=Hd hvs
 replace hrows:=Hd hrows
 replace hr1:=Hd hr1
 replace ho:=Hd ho
 replace hM:=Hd hM
 go_wp2_with fail
 clear mk lo ll
 go_loopw [33] (fun kv wr => ∃ (k : Nat) (f : Names) (vals : List Value),k ≤ M ∧ kv = .int .i64 k ∧ Rows w3.heap.size wr f ∧ Below w3.heap.size w3 wr ∧ WN f (.slice oa on oc) vals M (pairTo K N T' k)) (fun kv _ => M - (intOf kv).toNat)
 case atStart => exact ⟨0,f1,_,by omega,rfl,hr1.out,hb4,h1⟩
 case round =>
  clear h1 ho hr1 hb4
  obtain ⟨k,f2,vals,hk,rfl,hr2,b2,h2⟩:=hrel
  obtain ⟨wo,rfl⟩ : ∃ wo : World,wo = wr:=⟨_,rfl⟩
  by_cases hlt : k < M
  ·obtain ⟨u,hu⟩ : ∃ u,k / N = u:=⟨_,rfl⟩
   obtain ⟨v,hv⟩ : ∃ v,k % N = v:=⟨_,rfl⟩
   have hun : u < N:=by rw [← hu]; exact div_lt_of (by rw [hM.out]; exact hlt)
   have hvn : v < N:=by rw [← hv]; exact Nat.mod_lt _ (by omega)
   have hqu : (k : Int) / (N : Int) = (u : Int):=by rw [← hu]; simp
   have hqv : (k : Int) % (N : Int) = (v : Int):=by rw [← hv]; simp
   have hqu2 : (k : Int).tdiv (N : Int) = (u : Int):=by rw [Int.tdiv_eq_ediv_of_nonneg (by omega)]; exact hqu
   have hqv2 : (k : Int).tmod (N : Int) = (v : Int):=by rw [Int.tmod_eq_emod_of_nonneg (by omega)]; exact hqv
   have hwu : IntKind.i64.wrap (u : Int) = u:=wrapK (by omega) (by omega)
   have hwv : IntKind.i64.wrap (v : Int) = v:=wrapK (by omega) (by omega)
   obtain ⟨gu,cu,eu,hcu,hcellU⟩:=hrows.out u hun
   obtain ⟨gv,cv,ev,hcv,hcellV⟩:=hrows.out v hvn
   have iU:=fun w' => hvs.out.idx oneArrows u (by omega) w'
   have iV:=fun w' => hvs.out.idx oneArrows v (by omega) w'
   have cU3:=hvs.out.cellV u (by omega)
   have cV3:=hvs.out.cellV v (by omega)
   rw [eu] at cU3
   rw [ev] at cV3
   have cU:=(b2.cell (World.block_lt_of_cell? _ _ cU3)).trans cU3
   generalize valAt (.slice la ln lc) u = ua at *
   have lenU:=lenArr gu K cu
   have lenV:=lenArr gv K cv
   have idxU:=fun s (hs : s < K) w' => idxArr gu K cu s hs w'
   have idxV:=fun s (hs : s < K) w' => idxArr gv K cv s hs w'
   have hcU:=fun (w' : World) (hb : Below w3.heap.size w3 w') s (hs : s < K) => (⟨cell_keep hb (hcellU s hs).1,cell_keep hb (hcellU s hs).2⟩ : w'.cell? ⟨gu,s * 2,none⟩ = some (.int .i64 (toN K N u s)) ∧ w'.cell? ⟨gu,s * 2 + 1,none⟩ = some (.int .i64 (labN K T' u s)))
   have hcV:=fun (w' : World) (hb : Below w3.heap.size w3 w') s (hs : s < K) => (⟨cell_keep hb (hcellV s hs).1,cell_keep hb (hcellV s hs).2⟩ : w'.cell? ⟨gv,s * 2,none⟩ = some (.int .i64 (toN K N v s)) ∧ w'.cell? ⟨gv,s * 2 + 1,none⟩ = some (.int .i64 (labN K T' v s)))
   have cVk:=fun (w' : World) (hb : Below w3.heap.size w3 w') => (hb.cell (World.block_lt_of_cell? _ _ cV3)).trans cV3
   generalize valAt (.slice la ln lc) v = va' at *
   replace hcU:=Hd hcU
   replace hcV:=Hd hcV
   replace cVk:=Hd cVk
   replace idxU:=Hd idxU
   replace idxV:=Hd idxV
   replace hcellU:=Hd hcellU
   replace hcellV:=Hd hcellV
   replace hr2:=Hd hr2
   replace hu:=Hd hu
   replace hv:=Hd hv
   replace eu:=Hd eu
   replace ev:=Hd ev
   clear cU3 cV3
   go_wp2_with fail
   clear cU iU
   go_loopw [10,43] (fun tv sv wr => ∃ (s : Nat) (tw : Value),s ≤ K ∧ sv = .int .i64 s ∧ tw = tv ∧ OwnI wo.heap.size wr tw (castI (rawP K N T' u v s)) ∧ Below wo.heap.size wo wr) (fun _ sv _ => K - (intOf sv).toNat)
   case atStart => exact ⟨0,_,by omega,rfl,rfl,OwnI.nil _ _,Below.refl _ _⟩
   case round =>
    obtain ⟨s,tv,hs,rfl,rfl,hoT,bT⟩:=hrel
    obtain ⟨wt,rfl⟩ : ∃ wt : World,wt = wr:=⟨_,rfl⟩
    by_cases hsl : s < K
    ·have b3t:=b2.trans (bT.mono b2.size)
     have iS:=fun w' => idxU.out s hsl w'
     obtain ⟨cS0,cS1⟩:=hcU.out wt b3t s hsl
     obtain ⟨X,hX⟩ : ∃ X,toN K N u s = X:=⟨_,rfl⟩
     obtain ⟨Y,hY⟩ : ∃ Y,labN K T' u s = Y:=⟨_,rfl⟩
     rw [hX] at cS0
     rw [hY] at cS1
     have hXN : X < N:=by rw [← hX]; exact toN_lt (by omega)
     have bA:=belowAlloc wt (.cells #[.int .i64 X,.int .i64 Y] 169)
     have bTA:=bT.trans (bA.mono bT.size)
     have b3A:=b3t.trans (bA.mono b3t.size)
     have cA0 : (wt.alloc (.cells #[.int .i64 X,.int .i64 Y] 169)).cell? ⟨wt.heap.size,0,none⟩ = some (.int .i64 X):=by simp [go_sem]
     have cA1 : (wt.alloc (.cells #[.int .i64 X,.int .i64 Y] 169)).cell? ⟨wt.heap.size,1,none⟩ = some (.int .i64 Y):=by simp [go_sem]
     have cV:=cVk.out _ b3A
     have hoA:=hoT.below bA
     have hneT : tv.ownBlock ≠ some wt.heap.size:=fun e => by have:=(hoT.lt _ e).2; omega
     replace hoT:=Hd hoT
     replace hoA:=Hd hoA
     replace hX:=Hd hX
     replace hY:=Hd hY
     replace cA0:=Hd cA0
     replace cA1:=Hd cA1
     go_wp2_with fail
     obtain ⟨wa,hwa⟩ : ∃ wa : World,wa = wt.alloc (.cells #[.int .i64 X,.int .i64 Y] 169):=⟨_,rfl⟩
     rw [← hwa] at bA bTA b3A cA0 cA1 cV hoA ⊢
     replace hwa:=Hd hwa
     go_loopw [10,54] (fun tv' jv wr => ∃ (j : Nat) (tw : Value),j ≤ K ∧ jv = .int .i64 j ∧ tw = tv' ∧ OwnI wo.heap.size wr tw (castI (rawP K N T' u v s ++ rawS K N T' u v s j)) ∧ Below wo.heap.size wo wr ∧ tw.ownBlock ≠ some wt.heap.size ∧ wr.cell? ⟨wt.heap.size,0,none⟩ = some (.int .i64 X) ∧ wr.cell? ⟨wt.heap.size,1,none⟩ = some (.int .i64 Y)) (fun _ jv _ => K - (intOf jv).toNat)
     case atStart => exact ⟨0,_,by omega,rfl,rfl,by simpa [rawS] using hoA.out,bTA,hneT,cA0.out,cA1.out⟩
     case round =>
      obtain ⟨j,tj,hj,rfl,rfl,hoJ,bJ,hne,y0,y1⟩:=hrel
      obtain ⟨wj,rfl⟩ : ∃ wj : World,wj = wr:=⟨_,rfl⟩
      by_cases hjl : j < K
      ·have b3j:=b2.trans (bJ.mono b2.size)
       have iJ:=fun w' => idxV.out j hjl w'
       obtain ⟨cJ0,cJ1⟩:=hcV.out wj b3j j hjl
       obtain ⟨X2,hX2⟩ : ∃ X,toN K N v j = X:=⟨_,rfl⟩
       obtain ⟨Y2,hY2⟩ : ∃ Y,labN K T' v j = Y:=⟨_,rfl⟩
       rw [hX2] at cJ0
       rw [hY2] at cJ1
       have hXN2 : X2 < N:=by rw [← hX2]; exact toN_lt (by omega)
       have bA2:=belowAlloc wj (.cells #[.int .i64 X2,.int .i64 Y2] 169)
       have y0':=cell_keep bA2 y0
       have y1':=cell_keep bA2 y1
       have bJA:=bJ.trans (bA2.mono bJ.size)
       have hoJA:=hoJ.below bA2
       have hsz:=bJA.size
       have hwt : wt.heap.size < wj.heap.size:=World.block_lt_of_cell? _ _ y0
       have hlenJ : (castI (rawP K N T' u v s ++ rawS K N T' u v s j)).length ≤ 100:=by
        rw [castI_len,List.length_append]
        have e1:=rawP_len K N T' u v s
        have e2:=rawS_len K N T' u v s j
        have e3:=Nat.mul_le_mul hs hk4
        omega
       replace hoJ:=Hd hoJ
       replace hX2:=Hd hX2
       replace hY2:=Hd hY2
       have cB0 : (wj.alloc (.cells #[.int .i64 X2,.int .i64 Y2] 169)).cell? ⟨wj.heap.size,0,none⟩ = some (.int .i64 X2):=by simp [go_sem]
       have cB1 : (wj.alloc (.cells #[.int .i64 X2,.int .i64 Y2] 169)).cell? ⟨wj.heap.size,1,none⟩ = some (.int .i64 Y2):=by simp [go_sem]
       go_upto_region 17 with fail
       obtain ⟨wb,hwb⟩ : ∃ wb : World,wb = wj.alloc (.cells #[.int .i64 X2,.int .i64 Y2] 169):=⟨_,rfl⟩
       rw [← hwb] at bA2 y0' y1' bJA hoJA hsz cB0 cB1 ⊢
       have hszb : wj.heap.size < wb.heap.size:=World.block_lt_of_cell? _ _ cB0
       replace hszb:=Hd hszb
       replace hwb:=Hd hwb
       by_cases hYY : Y = Y2
       ·have hYq : (Y == Y2) = true:=by rw [beq_iff_eq]; exact hYY
        have hraw : rawS K N T' u v s (j + 1) = rawS K N T' u v s j ++ [X * N + X2]:=by
         rw [rawS_succ]; unfold rawT
         rw [hY.out,hY2.out,hX.out,hX2.out,if_pos hYY]
        obtain ⟨m,hm⟩ : ∃ m,X * N = m:=⟨_,rfl⟩
        have hm1 : (X : Int) * (N : Int) = (m : Int):=by rw [← hm]; simp
        have hml : m ≤ 6561:=by rw [← hm]; exact Nat.le_trans (Nat.mul_le_mul (show X ≤ 81 by omega) hN81) (by decide)
        have hwm : IntKind.i64.wrap (m : Int) = m:=wrapK (by omega) (by omega)
        have hsum : (m : Int) + (X2 : Int) = ((m + X2 : Nat) : Int):=by simp
        rw [hm] at hraw
        obtain ⟨z,hz⟩ : ∃ z,m + X2 = z:=⟨_,rfl⟩
        rw [hz] at hsum hraw
        have hzl : z ≤ 7000:=by omega
        have hwz : IntKind.i64.wrap (z : Int) = z:=wrapK (by omega) (by omega)
        replace hraw:=Hd hraw
        replace hm:=Hd hm
        replace hz:=Hd hz
        replace hYY:=Hd hYY
        go_wp2_with (at_builtin; go_loud (refine wpl_app1 rfl _ _ rfl wo.heap.size tj _ z hoJA rfl rfl (by omega) hsz ?_))
        intro v' w7 ho7 b7 hal
        have hne' : v'.ownBlock ≠ some wt.heap.size:=by
         rcases hal with ⟨q1,_⟩ | ⟨m,q1,q2,_⟩
         ·rw [ownBlock_eq hoJA ho7 q1]; exact hne
         ·rw [q1]; intro e; injection e with e; have:=hszb.out; omega
        have y07 : w7.cell? ⟨wt.heap.size,0,none⟩ = some (.int .i64 X) ∧ w7.cell? ⟨wt.heap.size,1,none⟩ = some (.int .i64 Y):=by
         rcases hal with ⟨_,q2⟩ | ⟨_,_,_,q2⟩
         ·exact ⟨cell_grown q2 y0' hne,cell_grown q2 y1' hne⟩
         ·exact ⟨cell_grown q2 y0' (by simp),cell_grown q2 y1' (by simp)⟩
        obtain ⟨ta,tn,tc,rfl⟩:=ho7.at.shape
        replace ho7:=Hd ho7
        replace y07:=Hd y07
        clear hal
        go_wp2
        go_roundw
        case measure => simp [intOf]; omega
        case rel => exact ⟨j + 1,_,by omega,by go_num,rfl,by rw [hraw.out,← List.append_assoc,castI_snoc]; exact ho7.out,bJA.trans b7,hne',y07.out.1,y07.out.2⟩
       ·have hYq : (Y == Y2) = false:=by rw [beq_eq_false_iff_ne]; exact hYY
        have hraw : rawS K N T' u v s (j + 1) = rawS K N T' u v s j:=by
         rw [rawS_succ]; unfold rawT
         rw [hY.out,hY2.out,if_neg hYY,List.append_nil]
        replace hraw:=Hd hraw
        replace hoJA:=Hd hoJA
        replace hYY:=Hd hYY
        go_wp2
        go_roundw
        case measure => simp [intOf]; omega
        case rel => exact ⟨j + 1,_,by omega,by go_num,rfl,by rw [hraw.out]; exact hoJA.out,bJA,hne,y0',y1'⟩
      ·obtain rfl : j = K:=by omega
       rw [← rawP_succ] at hoJ
       replace hoJ:=Hd hoJ
       go_wp2
       go_roundw
       case measure => simp [intOf]; omega
       case rel => exact ⟨s + 1,_,by omega,by go_num,rfl,hoJ.out,bJ⟩
    ·obtain rfl : s = K:=by omega
     have hlT : (castI (rawP s N T' u v s)).length ≤ 17592186044416:=by
      rw [castI_len]
      have e1:=rawP_len s N T' u v s
      have e3:=Nat.mul_le_mul hk4 hk4
      omega
     have hsz:=bT.size
     replace hoT:=Hd hoT
     go_wp2_with fail
     refine (sort_own wo.heap.size tv _ wt hoT.out hlT hsz).mono ?_
     rintro e w8 ⟨rfl,ho8,b8⟩
     have bT8:=bT.trans b8
     replace ho8:=Hd ho8
     go_wp2_with fail
     refine (compact_own wo.heap.size tv _ w8 ho8.out (by rw [srt_length]; omega)).mono ?_
     rintro e w9 ⟨x,rfl,_,ho9,b9⟩
     have bT9:=bT8.trans b9
     have hded : ded (srt (castI (rawP s N T' u v s))) (srt (castI (rawP s N T' u v s))).length = castI (pairL s N T' k):=by
      refine ded_pair (by omega) (srt_sorted _) (fun x => ?_)
      rw [srt_mem,hu.out,hv.out]; rfl
     rw [hded] at ho9
     have hnew:=h2.new hr2.out k bT9 b2.size ho9
     obtain ⟨y1,y2,y3,f8,hr8,h8,_⟩:=h2.put hlt hnew
     rw [pairTo_step] at h8
     have iO:=fun w' => ((hr2.out.ownV h2.outer).at).idx oneLists k (by rw [h2.len]; exact hlt) w'
     generalize valAt (.slice oa on oc) k = ka at *
     obtain ⟨xa,xn,xc,rfl⟩:=ho9.at.shape
     have b39:=b2.trans (bT9.mono b2.size)
     replace hr8:=Hd hr8
     replace ho9:=Hd ho9
     replace hded:=Hd hded
     replace hnew:=Hd hnew
     go_wp2
     go_roundw
     case measure => simp [intOf]; omega
     case rel => exact ⟨k + 1,f8,_,by omega,by go_num,hr8.out,b39.setCell y3 _,h8⟩
  ·obtain rfl : k = M:=by omega
   have hR:=hr2.monoB (Nat.le_trans b03.size (Nat.le_refl _))
   have hW : WN f2 (.slice oa on oc) vals (N * N) (fun p => castI (pairL K N T' p)):=by
    rw [hM.out]
    exact ⟨h2.outer,h2.len,fun u hu => by rw [h2.rows u hu]; unfold pairTo; rw [if_pos hu]⟩
   have bE:=Below.step b03 b2
   replace hR:=Hd hR
   replace hr2:=Hd hr2
   go_wp2
   go_ret2
   exact ⟨_,_,rfl,bE,rfl,_,_,hR.out,hW⟩
end Go.Proofs.YtncpnaoabkjegaaGreatDoor
namespace Go.Proofs.YtncpnaoabkjegaaGreatDoor
open Go.RowKit Go.Shelf Go.Sort
set_option maxRecDepth 100000
def Tryz.laysDel_ren : Go.Shelf.Ren:=⟨fun | 10 => 123 | 6 => 168 | n => n,fun | 22 => 22 | 23 => 3 | 25 => 100 | 3 => 3 | 4 => 4 | 0 => 0 | n => n,fun | n => n⟩
theorem Tryz.laysDel : Go.Proofs.SlLaysH.n10 Tryz.prog Tryz.laysDel_ren:={
 mixed:=by kernel_rfl
 f6:=⟨Tryz.f168.name,by decide,Tryz.func168.trans (congrArg some (by kernel_rfl))⟩
 f10:=⟨Tryz.f123.name,by decide,Tryz.func123.trans (congrArg some (by kernel_rfl))⟩
 t0:=Tryz.underlying0
 a0:=Tryz.isAgg0
 z0:=Tryz.sizeOf0
 v0:=Tryz.zeroValue0
 t3:=Tryz.underlying3
 a3:=Tryz.isAgg3
 z3:=Tryz.sizeOf3
 v3:=Tryz.zeroValue3
 t4:=Tryz.underlying4
 a4:=Tryz.isAgg4
 z4:=Tryz.sizeOf4
 v4:=Tryz.zeroValue4
 t22:=Tryz.underlying22
 a22:=Tryz.isAgg22
 z22:=Tryz.sizeOf22
 v22:=Tryz.zeroValue22
 a23:=Tryz.isAgg3
 z23:=Tryz.sizeOf3
 t25:=Tryz.underlying100
 a25:=Tryz.isAgg100
 z25:=Tryz.sizeOf100
 v25:=Tryz.zeroValue100 }
/-- Are quotient and rest one? -/
def dgI (N : Nat) (x : Int) : Bool:=IntKind.i64.wrap (x.tdiv N) == x.tmod N
theorem dgI_aux (a c : Nat) (ha : a ≤ 100000) : (IntKind.i64.wrap (a : Int) == (c : Int)) = decide (a = c):=by
 rw [wrapK (x:=(a : Int)) (by omega) (by omega)]
 by_cases e : a = c
 ·simp [e]
 ·rw [decide_eq_false e,beq_eq_false_iff_ne]; omega
theorem dgI_nat {N p : Nat} (hp : p ≤ 100000) : dgI N p = decide (Diag N p):=by
 unfold dgI
 have h1 : p / N ≤ 100000:=Nat.le_trans (Nat.div_le_self _ _) hp
 have e1 : (p : Int).tdiv (N : Int) = ((p / N : Nat) : Int):=by rw [Int.tdiv_eq_ediv_of_nonneg (by omega)]; simp
 have e2 : (p : Int).tmod (N : Int) = ((p % N : Nat) : Int):=by rw [Int.tmod_eq_emod_of_nonneg (by omega)]; simp
 rw [e1,e2,dgI_aux _ _ h1,decide_eq_decide]
 exact Iff.rfl
theorem apart1_any (x : Int) (b N : Nat) (w : World) (hN : 1 ≤ N) (hb : w.cell? ⟨b,0,none⟩ = some (.int .i64 N)) :
 Calls Tryz.prog 124 #[.int .i64 x,.pointer (some ⟨b,0,none⟩)] w (RetB (dgI N x) w):=by
 have h1 : ¬ (N : Int) = 0:=by omega
 have h2 : ((N : Int) == 0) = false:=by rw [beq_eq_false_iff_ne]; omega
 have h3 : ¬ N = 0:=by omega
 go_enter Tryz.func124,Tryz.ntmps124
 go_upto_region 1 with fail
 refine wp_region_plan (fun w' => w'.cell? ⟨b,0,none⟩ = some (.int .i64 N)) 7 [(0,true),(1,true),(2,true),(3,true),(4,true),(5,true),(6,true)] (by kernel_rfl) (by kernel_rfl) ?_
 have hS : w.drew.cell? ⟨b,0,none⟩ = some (.int .i64 N):=hb
 refine pqY 4 hS ?_
 refine pqY 5 hS ?_
 refine pqY 6 hS ?_
 refine pqY 7 hS ?_
 refine pqY 8 hS ?_
 refine pqY 9 hS ?_
 refine pqY 10 hS ?_
 refine head0 ?_
 simp only [List.drop_succ_cons,List.drop_zero]
 clear hS
 go_wp2
 refine NoPanic.normal ?_
 go_wp2
 go_ret
 exact ⟨1,rfl,rfl⟩
theorem eg_apart1 (args : Array Value) (w : World) : (callFunc 124 args).run Tryz.prog w = .ok (.enter 124 args) w:=by kernel_rfl
theorem gives1 (x : Int) (b N : Nat) (w : World) (hN : 1 ≤ N) (hb : w.cell? ⟨b,0,none⟩ = some (.int .i64 N)) : FnGives Tryz.prog 124 #[.pointer (some ⟨b,0,none⟩)] #[.int .i64 x] (.bool (dgI N x)) w:=by
 refine (apart1_any x b N w hN hb).mono ?_
 rintro e w' ⟨n,rfl,rfl⟩
 exact ⟨rfl,n,rfl⟩
theorem delete_own (B : Nat) (v : Value) (xs : List Int) (b N : Nat) (w : World) (h : OwnI B w v xs) (hx : xs ≠ []) (hN : 1 ≤ N) (hb : w.cell? ⟨b,0,none⟩ = some (.int .i64 N)) (hne : v.ownBlock ≠ some b) :
 Calls Tryz.prog 123 #[v,.func (.func 124) #[] #[.pointer (some ⟨b,0,none⟩)]] w fun e w' => ∃ x,e = .returned x ∧ x.ownBlock = v.ownBlock ∧ OwnI B w' x (xs.filter fun x => !dgI N x) ∧ Below B w w':=by
 have hbl:=World.block_lt_of_cell? _ _ hb
 rcases h.2 with ⟨rfl,hn⟩ | ⟨g,cap,cur,rfl,hB,hg,hn,hm,hs,ht⟩
 ·exact absurd (List.length_eq_zero_iff.1 hn) hx
 ·have hne' : b ≠ g:=fun e => hne (by rw [e]; rfl)
  have hcon:=AnyE.slices_DeleteFunc Tryz.laysDel (Value.int .i64) (fun _ => rfl) (dgI N) 124 #[.pointer (some ⟨b,0,none⟩)] (fun args w' => eg_apart1 args w') 0 (fun w => by kernel_rfl) g 0 cap xs.toArray w
   (fun W x hb' => gives1 x b N W hN ((hb'.cell (p:=⟨b,0,none⟩) hbl).trans hb))
   (fun n os dk x _ => gives1 x b N _ hN (by
     unfold sortWorld
     rw [cell?_grow _ _ _ (by show b < (putRow _ _ _ _ _).heap.size; rw [size_putRow]; exact hbl),cell?_putRow_other _ _ g 0 _ _ (Or.inl hne')]
     exact hb))
   (holds_of_block_i hg (by simpa using ht)) (by have:=h.at.len_le; simpa using this) (by simpa using hn)
  refine Calls.mono hcon ?_
  rintro e w' ⟨rfl,q,rfl⟩
  have hfl : (xs.toArray.toList.filter fun x => !dgI N x) = xs.filter fun x => !dgI N x:=rfl
  rw [hfl]
  have hle:=List.length_filter_le (fun x => !dgI N x) xs
  generalize hF : (xs.filter fun x => !dgI N x) = F at *
  have hL : (F ++ List.replicate (xs.toArray.size - F.length) 0).length = xs.length:=by simp; omega
  have ho:=ownsRow_sorted_i (w:=w) (n:=q) (os:=#[]) (ss:=xs) (ts:=F ++ List.replicate (xs.toArray.size - F.length) 0) hL hB hg hn hm hs
  have hgr:=grownBy_sorted_i (w:=w) (g:=g) (n:=q) (os:=#[]) (F ++ List.replicate (xs.toArray.size - F.length) 0).toArray
  rw [grow_empty] at ho hgr
  have hO : OwnI B (putRow (Value.int .i64) (Sort.ahead w q) g 0 (F ++ List.replicate (xs.toArray.size - F.length) 0).toArray) (.slice (some ⟨g,0,none⟩) xs.length cap) (F ++ List.replicate (xs.toArray.size - F.length) 0):=by
   unfold OwnI; rw [hL]; exact ho
  have ho2:=hO.cutTo F.length (by rw [hL]; exact hle)
  rw [List.take_left' rfl] at ho2
  exact ⟨_,rfl,rfl,ho2,(Below.refl _ _).grown hgr (by have:=(Array.getElem?_eq_some_iff.1 hg).1; omega) (fun k hk => by cases hk; exact hB)⟩
end Go.Proofs.YtncpnaoabkjegaaGreatDoor
namespace Go.Proofs.YtncpnaoabkjegaaGreatDoor
theorem diag_arr {K N : Nat} {T : List Int} {u s : Nat} (hu : u < N) (hs : s < K) : toN K N u s * N + toN K N u s ∈ pairL K N T (u * N + u):=by
 rw [mem_pairL (by omega),pair_div hu,pair_mod hu]
 exact ⟨s,s,hs,hs,rfl,rfl⟩
/-- Where a word leads from a node. -/
theorem diag_word {K N : Nat} {T : List Int} {u : Nat} (hu : u < N) : ∀ (n : Nat) (xs : List Int),xs.length = n → Syms K xs → Goes (pairL K N T) (u * N + u) ((u * pw K xs.length + numW K xs) % N * N + (u * pw K xs.length + numW K xs) % N)
 | 0,xs,hn,_ => by
  obtain rfl:=List.length_eq_zero_iff.1 hn
  rw [show u * pw K ([] : List Int).length + numW K [] = u by simp [pw,numW],Nat.mod_eq_of_lt hu]
  exact .refl _
 | n + 1,xs,hn,hx => by
  have hne : xs ≠ []:=by intro e; subst e; simp at hn
  obtain ⟨b,x,rfl⟩ : ∃ b x,xs = b ++ [x]:=⟨xs.dropLast,xs.getLast hne,(List.dropLast_concat_getLast hne).symm⟩
  have hb : b.length = n:=by simpa using hn
  have ih:=diag_word (T:=T) hu n b hb (fun y hy => hx y (List.mem_append_left _ hy))
  have hxs:=hx x (by simp)
  refine .step ih ?_
  have:=diag_arr (T:=T) (u:=(u * pw K b.length + numW K b) % N) (s:=x.toNat) (Nat.mod_lt _ (by omega)) (show x.toNat < K by omega)
  have e : toN K N ((u * pw K b.length + numW K b) % N) x.toNat = (u * pw K (b ++ [x]).length + numW K (b ++ [x])) % N:=by
   unfold toN
   rw [numW_snoc,List.length_append,List.length_singleton,pw_succ,← Nat.mul_assoc,show u * pw K b.length * K + (numW K b * K + x.toNat) = (u * pw K b.length + numW K b) * K + x.toNat by rw [Nat.add_mul]; omega]
   rw [Nat.add_mod,Nat.mul_mod,Nat.mod_mod,← Nat.mul_mod,← Nat.add_mod]
  rw [e] at this
  exact this
theorem diag_goes {K R : Nat} {T : List Int} {u v : Nat} (hK : 1 ≤ K) (hu : u < pw K (2 * R)) (hv : v < pw K (2 * R)) : Goes (pairL K (pw K (2 * R)) T) (u * pw K (2 * R) + u) (v * pw K (2 * R) + v):=by
 have:=diag_word (T:=T) hu (2 * R) (digs K (2 * R) v) (digs_length ..) (digs_syms hK _ _)
 rw [digs_length,numW_digs hK _ _ hv,show u * pw K (2 * R) + v = pw K (2 * R) * u + v by rw [Nat.mul_comm],Nat.mul_add_mod,Nat.mod_eq_of_lt hv] at this
 exact this
open Go.RowKit
set_option maxRecDepth 100000
/-- What a call of the search's leaves. -/
def SPost (B : Nat) (w : World) (d : Nat) (nv lv fv pv : Value) (n : Nat) (S : TS) (e : Ending) (w' : World) : Prop :=
 e = .returned (.tuple #[]) ∧ Below B w w' ∧ ∃ f' ov' cv',Rows B w' f' ∧ SN f' d nv lv fv pv ov' cv' n S
set_option maxHeartbeats 1000000 in
theorem enter_any (B : Nat) (w : World) (f : Names) (d : Nat) (nv lv fv pv ov cv : Value) (n : Nat) (S : TS) (v : Nat) (hr : Rows B w f) (h : SN f d nv lv fv pv ov cv n S) (hB : B ≤ w.heap.size)
 (hv : v < n) (hnc : v ∉ S.calls) (ho : S.opn.length < 10000) (hcl : S.calls.length < 10000) (ht : S.time < 100000) :
 Calls Tryz.prog 249 #[.pointer (some ⟨d,0,none⟩),.int .i64 v] w (SPost B w d nv lv fv pv n (enterS S v)):=by
 have e1 : ((S.time + 1 : Nat) : Int) = (S.time : Int) + 1:=by omega
 have z6:=h.cell hr 6 (by decide)
 have f6:=h.frz hr 6
 obtain ⟨f1,hr1,h1⟩:=h.setTime hr (S.time + 1)
 have b1 : Below B w (w.setCell ⟨d,6,none⟩ (.int .i64 ((S.time + 1 : Nat) : Int))):=(Below.refl B w).setCell (h.base hr) _
 rw [e1] at hr1 b1
 simp only [List.getElem?_cons_succ,List.getElem?_cons_zero] at z6
 replace hr1:=Hd hr1
 replace hr:=Hd hr
 replace e1:=Hd e1
 go_enter Tryz.func249,Tryz.ntmps249
 go_wp2
 clear z6 f6
 refine wp_region_plan (fun w' => w'.cell? ⟨d,1,none⟩ = some lv ∧ w'.cell? ⟨d,2,none⟩ = some fv ∧ w'.cell? ⟨d,6,none⟩ = some (.int .i64 ((S.time : Int) + 1))) 21 [(0,true),(1,true),(2,true),(3,true),(4,true),(5,true),(6,true),(7,true),(8,true),(9,true),(10,true),(11,true),(12,true),(13,true),(14,true),(15,true),(16,true),(17,true),(18,true),(19,false),(20,true)] (by kernel_rfl) (by kernel_rfl) ?_
 obtain ⟨W,hW⟩ : ∃ W : World,W = (w.setCell ⟨d,6,none⟩ (.int .i64 ((S.time : Int) + 1))).drew:=⟨_,rfl⟩
 rw [← hW]
 have hrW : Rows B W f1:=by rw [hW]; exact hr1.out.drew
 have bW : Below B w W:=by rw [hW]; exact b1.drew
 clear hW
 have hS : W.cell? ⟨d,1,none⟩ = some lv ∧ W.cell? ⟨d,2,none⟩ = some fv ∧ W.cell? ⟨d,6,none⟩ = some (.int .i64 ((S.time : Int) + 1)):=⟨h1.cell hrW 1 (by decide),h1.cell hrW 2 (by decide),by rw [← e1.out]; exact h1.cell hrW 6 (by decide)⟩
 have oL:=hrW.ownI h1.low
 have oF:=hrW.ownI h1.fnd
 have iL:=fun w' => oL.at.idx v (by rw [tab_len]; exact hv) w'
 have iF:=fun w' => oF.at.idx v (by rw [tab_len]; exact hv) w'
 have cL:=oL.at.cellD v (by rw [tab_len]; exact hv)
 have fL:=oL.frz v (by rw [tab_len]; exact hv)
 have kL:=(oL.toV.blkB v (by rw [List.length_map,tab_len]; exact hv)).2
 obtain ⟨f2,hr2,h2⟩:=h1.setLow hrW v hv (S.time + 1)
 rw [e1.out] at hr2
 have oF2:=hr2.ownI h2.fnd
 have cF:=oF2.at.cellD v (by rw [tab_len]; exact hv)
 have fF:=oF2.frz v (by rw [tab_len]; exact hv)
 have kF:=(oF2.toV.blkB v (by rw [List.length_map,tab_len]; exact hv)).2
 have hS2 : (W.setCell (valAt lv v) (.int .i64 ((S.time : Int) + 1))).cell? ⟨d,1,none⟩ = some lv ∧ (W.setCell (valAt lv v) (.int .i64 ((S.time : Int) + 1))).cell? ⟨d,2,none⟩ = some fv ∧ (W.setCell (valAt lv v) (.int .i64 ((S.time : Int) + 1))).cell? ⟨d,6,none⟩ = some (.int .i64 ((S.time : Int) + 1)):=⟨h2.cell hr2 1 (by decide),h2.cell hr2 2 (by decide),by rw [← e1.out]; exact h2.cell hr2 6 (by decide)⟩
 obtain ⟨f3,hr3,h3⟩:=h2.setFound hr2 v hv (S.time + 1)
 rw [e1.out] at hr3
 have b3 : Below B w ((W.setCell (valAt lv v) (.int .i64 ((S.time : Int) + 1))).setCell (valAt fv v) (.int .i64 ((S.time : Int) + 1))):=(bW.setCell kL _).setCell kF _
 replace hr3:=Hd hr3
 replace hr2:=Hd hr2
 replace hrW:=Hd hrW
 clear oL oF oF2
 generalize valAt lv v = la at *
 generalize valAt fv v = fa at *
 refine pqY 11 hS ?_
 refine pqY 12 hS ?_
 refine pqY 13 hS ?_
 refine pqY 14 hS ?_
 refine pqY 15 hS ?_
 refine pqY 16 hS ?_
 refine pqY 17 hS ?_
 refine pqY 18 hS ?_
 refine pqY 19 hS ?_
 refine pqY 20 hS ?_
 refine pqY 21 hS ?_
 refine pqY 22 hS ?_
 refine pqY 23 hS ?_
 refine pqY 24 hS ?_
 refine pqY 25 hS ?_
 refine pqY 26 hS ?_
 refine pqY 27 hS ?_
 refine pqY 28 hS ?_
 refine pqY 29 hS ?_
 refine headC rfl (fun KK hK => ?_)
 -- CALL 19 slot none
 go_simp
 refine hK _ _ hS2 ?_
 clear hK KK
 refine pqY 30 hS2 ?_
 refine head0 ?_
 simp only [List.drop_succ_cons,List.drop_zero]
 clear hS hS2 cL fL
 go_wp2
 refine NoPanic.normal ?_
 obtain ⟨W3,hW3⟩ : ∃ W3 : World,W3 = (W.setCell la (.int .i64 ((S.time : Int) + 1))).setCell fa (.int .i64 ((S.time : Int) + 1)):=⟨_,rfl⟩
 rw [← hW3]
 rw [← hW3] at hr3 b3
 clear hW3 iL iF cF fF
 have z3:=h3.cell hr3.out 3 (by decide)
 simp only [List.getElem?_cons_succ,List.getElem?_cons_zero] at z3
 have oO:=hr3.out.ownI h3.opn
 have hB3 : B ≤ W3.heap.size:=Nat.le_trans hB b3.size
 go_wp2_with (at_builtin; refine wpl_app1 rfl _ _ rfl B ov (upI S.opn) v oO rfl rfl (by rw [upI_len]; omega) hB3 ?_)
 intro ov' w4 ho4 b4 hal
 obtain ⟨y3,g3,b5,f5,hr5,h5⟩:=h3.pushOpen hr3.out hB3 v ho4 hal
 obtain ⟨oa,on,oc,rfl⟩:=ho4.at.shape
 have z5:=y3 5 (by decide)
 simp only [List.getElem?_cons_succ,List.getElem?_cons_zero] at z5
 have z33:=y3 3 (by decide)
 simp only [List.getElem?_cons_succ,List.getElem?_cons_zero] at z33
 have g33:=g3 3
 replace y3:=Hd y3
 replace g3:=Hd g3
 replace hr5:=Hd hr5
 clear ho4 hal z3 oO
 have oC:=hr5.out.1 _ _ h5.calls
 go_wp2_with (at_builtin; go_loud (refine wpl_appF rfl _ _ rfl B cv S.calls.length _ v 0 _ oC rfl rfl (by simp) (by omega) (Nat.le_trans hB3 b5.size) ?_))
 intro g c w6 ho6 hal6
 obtain ⟨y5,g5,b7,f7,hr7,h7⟩:=h5.pushCalls hr5.out (Nat.le_trans hB3 b5.size) v hnc ho6 (hal6.imp id (fun ⟨a,b⟩ => ⟨by simpa using a,b⟩))
 have z5:=y5 5 (by decide)
 simp only [List.getElem?_cons_succ,List.getElem?_cons_zero] at z5
 have g55:=g5 5
 replace y5:=Hd y5
 replace g5:=Hd g5
 replace hr7:=Hd hr7
 clear ho6 hal6 oC
 go_wp2
 go_end0
 exact ⟨rfl,(b3.trans b5).trans b7,f7,_,_,hr7.out,h7⟩
theorem upI_top (t : Nat) (o : List Nat) : (upI (t :: o)).getD o.length 0 = (t : Int):=by
 rw [upI_cons,List.getD_eq_getElem?_getD,List.getElem?_append_right (by rw [upI_len]; exact Nat.le_refl _),upI_len,Nat.sub_self]; rfl
set_option maxHeartbeats 2000000 in
theorem leave_any (B : Nat) (w : World) (f : Names) (d : Nat) (nv lv fv pv ov cv : Value) (n : Nat) (adj : Nat → List Nat) (S : TS) (v : Nat) (r : List Nat) (hr : Rows B w f) (h : SN f d nv lv fv pv ov cv n S)
 (hI : TInv n adj S) (hc : S.calls = v :: r) (hn : n ≤ 8192) :
 Calls Tryz.prog 250 #[.pointer (some ⟨d,0,none⟩),.int .i64 v] w (SPost B w d nv lv fv pv n (leaveS S v r)):=by
 have hvc : v ∈ S.calls:=by rw [hc]; exact List.mem_cons_self
 have hvn:=hI.seenLt v (hI.callsSeen hvc).1
 have hvo:=hI.callsOpen v hvc
 have hol : ∀ x ∈ S.opn,x < n:=fun x hx => hI.seenLt x ((hI.opnIff x).1 hx).1
 have hlq:=hI.low_eq hc
 obtain ⟨g,c,rfl,hcap⟩:=h.callsShape hr (by rw [hc]; simp)
 rw [hc,List.length_cons] at h hcap
 have hrl:=hI.calls_len
 rw [hc,List.length_cons] at hrl
 have hwr : IntKind.i64.wrap (r.length : Int) = r.length:=wrapK (by omega) (by omega)
 obtain ⟨W,hW⟩ : ∃ W : World,W = w.drew:=⟨_,rfl⟩
 have hr0 : Rows B W f:=by rw [hW]; exact hr.drew
 obtain ⟨f1,hr1,h1⟩:=h.popCalls hc hr0
 have z5:=h.cell hr0 5 (by decide)
 have g5:=h.frz hr0 5
 simp only [List.getElem?_cons_succ,List.getElem?_cons_zero] at z5
 have b1 : Below B w (W.setCell ⟨d,5,none⟩ (.slice (some ⟨g,0,none⟩) r.length c)):=by rw [hW]; exact (Below.refl B w).drew.setCell (h.base hr) _
 have hsl : (0 ≤ (r.length : Int) ∧ (r.length : Int) ≤ (c : Int)):=⟨by omega,by omega⟩
 replace hr1:=Hd hr1
 replace hr:=Hd hr
 replace hr0:=Hd hr0
 replace hol:=Hd hol
 replace hI:=Hd hI
 replace hvo:=Hd hvo
 replace hvc:=Hd hvc
 replace hc:=Hd hc
 replace hlq:=Hd hlq
 go_enter Tryz.func250,Tryz.ntmps250
 go_wp2
 refine wp_region_plan (fun w' => w'.cell? ⟨d,5,none⟩ = some (.slice (some ⟨g,0,none⟩) (r.length + 1) c)) 14 [(0,true),(1,true),(2,true),(3,true),(4,true),(5,true),(6,true),(7,true),(8,true),(9,true),(10,true),(11,true),(12,true),(13,true)] (by kernel_rfl) (by kernel_rfl) ?_
 rw [← hW]
 clear hW
 have hS : W.cell? ⟨d,5,none⟩ = some (.slice (some ⟨g,0,none⟩) (r.length + 1) c):=z5
 refine pqY 7 hS ?_
 refine pqY 8 hS ?_
 refine pqY 9 hS ?_
 refine pqY 10 hS ?_
 refine pqY 11 hS ?_
 refine pqY 12 hS ?_
 refine pqY 13 hS ?_
 refine pqY 14 hS ?_
 refine pqY 15 hS ?_
 refine pqY 16 hS ?_
 refine pqY 17 hS ?_
 refine pqY 18 hS ?_
 refine pqY 19 hS ?_
 refine pqY 20 hS ?_
 refine head0 ?_
 simp only [List.drop_succ_cons,List.drop_zero]
 clear hS
 go_wp2
 refine NoPanic.normal ?_
 obtain ⟨W1,hW1⟩ : ∃ W1 : World,W1 = W.setCell ⟨d,5,none⟩ (.slice (some ⟨g,0,none⟩) r.length c):=⟨_,rfl⟩
 rw [← hW1]
 rw [← hW1] at hr1 b1
 clear hW1 z5 g5
 have x5:=h1.cell hr1.out 5 (by decide)
 simp only [List.getElem?_cons_succ,List.getElem?_cons_zero] at x5
 go_upto_if 27 with fail
 go_cut [] from 4 (fun wx => Below B w wx ∧ ∃ f2,Rows B wx f2 ∧ SN f2 d nv lv fv pv ov (.slice (some ⟨g,0,none⟩) r.length c) n { S with low:=lowS S.low v r,calls:=r })
 case first =>
  cases r with
  | nil =>
   go_wp2
   go_meet
   case rel => exact ⟨b1,f1,hr1.out,h1⟩
  | cons u r' =>
   have huc:=hI.out.callsSeen (c:=u) (by rw [hc.out]; simp)
   have hun:=hI.out.seenLt u huc.1
   simp only [List.length_cons] at h1 hrl x5 hcap hwr b1 hr1
   obtain ⟨t0,t1,_⟩:=h1.callTop rfl hr1.out
   have hwr2 : IntKind.i64.wrap (r'.length : Int) = r'.length:=wrapK (by omega) (by omega)
   have hp0 : 0 < (u :: r').length:=by simp
   have hne : u ≠ v:=fun e => by
    have:=hI.out.callsSorted
    rw [hc.out,e] at this
    exact absurd ((List.pairwise_cons.1 this).1 v List.mem_cons_self) (Nat.lt_irrefl _)
   go_upto_region 4 with fail
   refine wp_region_plan (fun w' => w'.cell? ⟨d,1,none⟩ = some lv ∧ w'.cell? (valAt lv u) = some (.int .i64 (S.low u)) ∧ w'.cell? (valAt lv v) = some (.int .i64 (S.low v))) 21 [(0,true),(1,true),(2,true),(3,true),(4,true),(5,true),(6,true),(7,true),(8,true),(9,true),(10,true),(11,true),(12,true),(13,true),(14,true),(15,true),(16,true),(17,true),(18,true),(19,false),(20,true)] (by kernel_rfl) (by kernel_rfl) ?_
   obtain ⟨W2,hW2⟩ : ∃ W2 : World,W2 = W1.drew:=⟨_,rfl⟩
   rw [← hW2]
   have hr2 : Rows B W2 f1:=by rw [hW2]; exact hr1.out.drew
   have b2 : Below B w W2:=by rw [hW2]; exact b1.drew
   clear hW2 t0 t1 x5
   have oL:=hr2.ownI h1.low
   have cU:=oL.at.cellD u (by rw [tab_len]; exact hun)
   have cV:=oL.at.cellD v (by rw [tab_len]; exact hvn)
   rw [tab_get _ _ _ hun] at cU
   rw [tab_get _ _ _ hvn] at cV
   have hS : W2.cell? ⟨d,1,none⟩ = some lv ∧ W2.cell? (valAt lv u) = some (.int .i64 (S.low u)) ∧ W2.cell? (valAt lv v) = some (.int .i64 (S.low v)):=⟨h1.cell hr2 1 (by decide),cU,cV⟩
   have iU:=fun w' => oL.at.idx u (by rw [tab_len]; exact hun) w'
   have iV:=fun w' => oL.at.idx v (by rw [tab_len]; exact hvn) w'
   have fU:=oL.frz u (by rw [tab_len]; exact hun)
   have kU:=(oL.toV.blkB u (by rw [List.length_map,tab_len]; exact hun)).2
   obtain ⟨f3,hr3,h3⟩:=h1.setLow hr2 u hun (min (S.low u) (S.low v))
   have b3 : Below B w (W2.setCell (valAt lv u) (.int .i64 ((min (S.low u) (S.low v) : Nat) : Int))):=b2.setCell kU _
   replace hr3:=Hd hr3
   replace hr2:=Hd hr2
   clear oL
   generalize valAt lv u = ua at *
   generalize valAt lv v = va at *
   refine pqY 37 hS ?_
   refine pqY 38 hS ?_
   refine pqY 39 hS ?_
   refine pqY 40 hS ?_
   refine pqY 41 hS ?_
   refine pqY 42 hS ?_
   refine pqY 43 hS ?_
   refine pqY 44 hS ?_
   refine pqY 45 hS ?_
   refine pqY 46 hS ?_
   refine pqY 47 hS ?_
   refine pqY 48 hS ?_
   refine pqY 49 hS ?_
   refine pqY 50 hS ?_
   refine pqY 51 hS ?_
   refine pqY 52 hS ?_
   refine pqY 53 hS ?_
   refine pqY 54 hS ?_
   refine pqY 55 hS ?_
   refine headC rfl (fun KK hK => ?_)
   -- CALL 19 slot (some 56)
   go_simp
   refine hK _ _ hS ?_
   clear hK KK
   refine pqY 57 hS ?_
   refine head0 ?_
   simp only [List.drop_succ_cons,List.drop_zero]
   clear hS
   go_wp2
   all_goals
    first
    | rw [show min (S.low u) (S.low v) = S.low v by omega] at b3 hr3
    | rw [show min (S.low u) (S.low v) = S.low u by omega] at b3 hr3
    | rw [show ((min (S.low u) (S.low v) : Nat) : Int) = min (S.low u : Int) (S.low v : Int) by omega] at b3 hr3
    refine NoPanic.normal ?_
    go_wp2
    go_meet
    case rel => exact ⟨b3,f3,hr3.out,h3⟩
 case rest =>
  obtain ⟨bc,f4,hr4,h4⟩:=hcut
  have oL:=hr4.ownI h4.low
  have oF:=hr4.ownI h4.fnd
  have cV:=oL.at.cellD v (by rw [tab_len]; exact hvn)
  have dV:=oF.at.cellD v (by rw [tab_len]; exact hvn)
  rw [tab_get _ _ _ hvn] at cV dV
  have hlv : ({ S with low:=lowS S.low v r,calls:=r } : TS).low v = S.low v:=hlq.out
  rw [hlv] at cV
  have iL:=fun w' => oL.at.idx v (by rw [tab_len]; exact hvn) w'
  have iF:=fun w' => oF.at.idx v (by rw [tab_len]; exact hvn) w'
  have x1:=h4.cell hr4 1 (by decide)
  have x2:=h4.cell hr4 2 (by decide)
  simp only [List.getElem?_cons_succ,List.getElem?_cons_zero] at x1 x2
  replace hr4:=Hd hr4
  clear oL oF
  generalize valAt lv v = la at *
  generalize valAt fv v = fa at *
  by_cases hlf : S.low v = S.found v
  ·have hne : ((S.low v : Int) != (S.found v : Int)) = false:=by rw [hlf]; simp
   go_upto_region 5 with fail
   go_quiet (fail)
   go_wp2_with fail
   clear cV dV iL iF x1 x2 hne
   go_loopg [] S.opn.length (fun k wr => ∃ o p f' ov',o.length = k ∧ k ≤ n ∧ v ∈ o ∧ (∀ x ∈ o,x < n) ∧ closeS v o p = closeS v S.opn S.part ∧ Rows B wr f' ∧ Below B w wr ∧ SN f' d nv lv fv pv ov' (.slice (some ⟨g,0,none⟩) r.length c) n { S with low:=lowS S.low v r,calls:=r,opn:=o,part:=p })
   case atStart => exact ⟨S.opn,S.part,f4,ov,rfl,hI.out.opn_len,hvo.out,hol.out,rfl,hr4.out.drewN nq,bc.trans ⟨rfl,rfl,rfl,Nat.le_refl _,fun _ _ => rfl⟩,h4⟩
   case round =>
    obtain ⟨o,p,f5,ov',rfl,hol5,hvo5,hon,hcl,hr5,b5,h5⟩:=hrel
    obtain ⟨t,o',rfl⟩ : ∃ t o',o = t :: o':=by cases o with
     | nil => cases hvo5
     | cons t o' => exact ⟨t,o',rfl⟩
    have htn : t < n:=hon t List.mem_cons_self
    obtain ⟨go,co,rfl,hco⟩:=h5.opnShape hr5 (by simp)
    simp only [List.length_cons] at h5 hco hol5
    obtain ⟨wo,rfl⟩ : ∃ wo : World,wo = wr:=⟨_,rfl⟩
    have x3:=h5.cell hr5 3 (by decide)
    simp only [List.getElem?_cons_succ,List.getElem?_cons_zero] at x3
    have oO:=(hr5.ownI h5.opn).at
    have cT:=oO.cellD o'.length (by rw [upI_len]; simp)
    rw [upI_top] at cT
    have iT:=fun w' => oO.idx o'.length (by rw [upI_len]; simp) w'
    have hwr' : IntKind.i64.wrap (o'.length : Int) = o'.length:=wrapK (by omega) (by omega)
    generalize valAt (.slice (some ⟨go,0,none⟩) (o'.length + 1) co) o'.length = ta at *
    replace hcl:=Hd hcl
    replace hon:=Hd hon
    replace hr5:=Hd hr5
    clear oO
    go_upto_region 6 with fail
    go_quiet (fail)
    go_upto_region 7 with fail
    refine wp_region_plan (fun w' => w'.cell? ⟨d,3,none⟩ = some (.slice (some ⟨go,0,none⟩) (o'.length + 1) co)) 14 [(0,true),(1,true),(2,true),(3,true),(4,true),(5,true),(6,true),(7,true),(8,true),(9,true),(10,true),(11,true),(12,true),(13,true)] (by kernel_rfl) (by kernel_rfl) ?_
    obtain ⟨W6,hW6⟩ : ∃ W6 : World,W6 = (wo.drewN nq).drew:=⟨_,rfl⟩
    rw [← hW6]
    have hr6 : Rows B W6 f5:=by rw [hW6]; exact (hr5.out.drewN nq).drew
    have b6 : Below B w W6:=by rw [hW6]; exact b5.trans ⟨rfl,rfl,rfl,Nat.le_refl _,fun _ _ => rfl⟩
    have hsl' : (0 ≤ (o'.length : Int) ∧ (o'.length : Int) ≤ (co : Int)):=⟨by omega,by omega⟩
    have hS : W6.cell? ⟨d,3,none⟩ = some (.slice (some ⟨go,0,none⟩) (o'.length + 1) co):=by rw [hW6]; exact x3
    have g3:=h5.frz hr6 3
    clear hW6 x3 cT iT
    obtain ⟨f7,hr7,h7⟩:=h5.popOpen rfl hr6
    have b7 : Below B w (W6.setCell ⟨d,3,none⟩ (.slice (some ⟨go,0,none⟩) o'.length co)):=b6.setCell (h5.base hr6) _
    replace hr7:=Hd hr7
    replace hr6:=Hd hr6
    refine pqY 85 hS ?_
    refine pqY 86 hS ?_
    refine pqY 87 hS ?_
    refine pqY 88 hS ?_
    refine pqY 89 hS ?_
    refine pqY 90 hS ?_
    refine pqY 91 hS ?_
    refine pqY 92 hS ?_
    refine pqY 93 hS ?_
    refine pqY 94 hS ?_
    refine pqY 95 hS ?_
    refine pqY 96 hS ?_
    refine pqY 97 hS ?_
    refine pqY 98 hS ?_
    refine head0 ?_
    simp only [List.drop_succ_cons,List.drop_zero]
    go_wp2
    clear hS g3
    refine NoPanic.normal ?_
    obtain ⟨W7,hW7⟩ : ∃ W7 : World,W7 = W6.setCell ⟨d,3,none⟩ (.slice (some ⟨go,0,none⟩) o'.length co):=⟨_,rfl⟩
    rw [← hW7]
    rw [← hW7] at hr7 b7
    clear hW7
    have x4:=h7.cell hr7.out 4 (by decide)
    simp only [List.getElem?_cons_succ,List.getElem?_cons_zero] at x4
    have oP:=hr7.out.ownI h7.part
    have iP:=fun w' => oP.at.idx t (by rw [tabI_len]; exact htn) w'
    have cP:=oP.at.cellD t (by rw [tabI_len]; exact htn)
    have fP:=oP.frz t (by rw [tabI_len]; exact htn)
    have kP:=(oP.toV.blkB t (by rw [List.length_map,tabI_len]; exact htn)).2
    obtain ⟨f8,hr8,h8⟩:=h7.setPart hr7.out t htn (v : Int)
    have b8 : Below B w (W7.setCell (valAt pv t) (.int .i64 (v : Int))):=b7.setCell kP _
    replace hr8:=Hd hr8
    clear oP
    generalize valAt pv t = pa at *
    by_cases htv : t = v
    ·subst htv
     rw [show closeS t (t :: o') p = (o',updN p t t) by simp [closeS]] at hcl
     have hfin : leaveS S t r = { S with low:=lowS S.low t r,calls:=r,opn:=o',part:=updN p t t }:=by
      unfold leaveS
      rw [hlq.out,if_pos hlf,← hcl.out]
     replace hfin:=Hd hfin
     replace hlf:=Hd hlf
     go_wp2
     (try simp only [Exit.inBlock,Exit.then]); refine bodyPost_ret (results_none rfl _ _ _) rfl ?_
     exact ⟨rfl,b8,f8,_,_,hr8.out,by rw [hfin.out]; exact h8⟩
    ·have hne : ((t : Int) == (v : Int)) = false:=by rw [beq_eq_false_iff_ne]; omega
     have hvo6 : v ∈ o':=(List.mem_cons.1 hvo5).resolve_left (fun e => htv e.symm)
     rw [show closeS v (t :: o') p = closeS v o' (updN p t v) by simp [closeS,htv]] at hcl
     replace hlf:=Hd hlf
     go_wp2
     go_roundg o'.length
     case measure => simp
     case rel => exact ⟨o',updN p t v,f8,_,rfl,by omega,hvo6,fun x hx => hon.out x (List.mem_cons_of_mem _ hx),hcl.out,hr8.out,b8,h8⟩
  ·have hne : ((S.low v : Int) != (S.found v : Int)) = true:=by rw [bne_iff_ne]; omega
   have hfin : leaveS S v r = { S with low:=lowS S.low v r,calls:=r }:=by
    unfold leaveS
    rw [hlq.out,if_neg hlf]
   replace hfin:=Hd hfin
   replace hlf:=Hd hlf
   go_upto_region 5 with fail
   go_quiet (fail)
   go_wp2
   (try simp only [Exit.inBlock,Exit.then]); refine bodyPost_ret (results_none rfl _ _ _) rfl ?_
   exact ⟨rfl,bc.trans ⟨rfl,rfl,rfl,Nat.le_refl _,fun _ _ => rfl⟩,f4,_,_,hr4.out.drewN nq,by rw [hfin.out]; exact h4⟩
end Go.Proofs.YtncpnaoabkjegaaGreatDoor
